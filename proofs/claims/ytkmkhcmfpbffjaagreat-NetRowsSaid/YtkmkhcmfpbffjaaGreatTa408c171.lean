import Derived.Test.YtkmkhcmfpbffjaaGreatTf02d20b9
import Derived.Laws.AppendOwn
import Derived.IntWalk
namespace Go.Proofs.YtkmkhcmfpbffjaaGreat.VI
set_option linter.unusedVariables false
set_option linter.unusedSimpArgs false
structure Beside (w w' : World) : Prop where
  os : w'.os = w.os
  tape : w'.tape = w.tape
  output : w'.output = w.output
theorem Beside.refl (w : World) : Beside w w := ⟨rfl, rfl, rfl⟩
theorem Beside.trans {a b c : World} (h : Beside a b) (k : Beside b c) : Beside a c := ⟨k.os.trans h.os, k.tape.trans h.tape, k.output.trans h.output⟩
structure To (x y : Cx) : Prop where
  ext : Ext x y
  hr : HR y
  beside : Beside x.w y.w
theorem To.refl {x : Cx} (h : HR x) : To x x := ⟨Ext.refl x, h, Beside.refl _⟩
theorem To.trans {x y z : Cx} (h : To x y) (k : To y z) : To x z := ⟨h.ext.trans k.ext, k.hr, h.beside.trans k.beside⟩
def blank (h : Heap) (id : Nat) : Bool := match h[id]? with | some b => b.gen == 0 | none => false
def lw (h : Heap) (id g : Nat) : Bool := match h[id]? with | some b => decide (b.gen < g) | none => false
theorem blank_lw {h : Heap} {id : Nat} (hb : blank h id = true) : lw h id 1 = true := by
  unfold blank at hb
  unfold lw
  cases hh : h[id]? with
  | none => simp [hh] at hb
  | some b => simp [hh] at hb; simp [hb]
def newg (h : Heap) (id g : Nat) (e : TypeId) (d : D) : Heap := h.set id ⟨g, e, d, true⟩
def newb (h : Heap) (id : Nat) (e : TypeId) (d : D) : Heap := newg h id 1 e d
def Cx.new (x : Cx) (id g : Nat) (e : TypeId) (d : D) (l : List Value) : Cx :=
  { P := x.P, w := x.w.alloc (.cells l.toArray e), ρ := fun j => if j = id then x.w.heap.size else x.ρ j, h := newg x.h id g e d, av := fun n => x.av n ∨ n = x.w.heap.size, ph := fun j => j ≠ id ∧ x.ph j }
theorem HR.lt {x : Cx} (h : HR x) {id : Nat} {b : Blk} (hb : x.h[id]? = some b) (hg : x.lv id b) : x.ρ id < x.w.heap.size := by
  rcases Nat.lt_or_ge (x.ρ id) x.w.heap.size with hlt | hge
  · exact hlt
  · cases hd : b.d with
    | bm k es =>
      obtain ⟨a, c, h1, _⟩ := h.mps id b k es hb hg hd
      simp [Array.getElem?_eq_none hge] at h1
    | _ =>
      obtain ⟨cs, lo, hi, h1, _⟩ := h.blk id b hb hg (by rw [hd]; rfl)
      simp [Array.getElem?_eq_none hge] at h1
theorem heap_alloc_lt (w : World) (o : Obj) (n : Nat) (h : n < w.heap.size) : (w.alloc o).heap[n]? = w.heap[n]? := by
  rw [show (w.alloc o).heap = w.heap.push o from rfl, Array.getElem?_push, if_neg (by omega)]
theorem heap_alloc_new' (w : World) (o : Obj) : (w.alloc o).heap[w.heap.size]? = some o := by
  rw [show (w.alloc o).heap = w.heap.push o from rfl, Array.getElem?_push, if_pos rfl]
theorem newg_get {h : Heap} {id g : Nat} (hb : lw h id g = true) (e : TypeId) (d : D) (j : Nat) : (newg h id g e d)[j]? = if j = id then some ⟨g, e, d, true⟩ else h[j]? := by
  unfold newg
  rw [List.getElem?_set]
  have hlt : id < h.length := by
    unfold lw at hb
    rcases Nat.lt_or_ge id h.length with hlt | hge
    · exact hlt
    · simp [List.getElem?_eq_none hge] at hb
  by_cases hj : id = j
  · subst hj; simp [hlt]
  · simp [hj, Ne.symm hj]
theorem shape_alloc (w : World) (o : Obj) (n : Nat) (h : n < w.heap.size) : (w.alloc o).shape? n = w.shape? n := by
  unfold World.shape?; rw [heap_alloc_lt w o n h]
theorem new_lv {x : Cx} {id g j : Nat} {e : TypeId} {d : D} {l : List Value} {b : Blk} (h : j ≠ id) : (x.new id g e d l).lv j b ↔ x.lv j b := by
  simp [Cx.lv, Cx.new, h]
theorem new_own_iff {x : Cx} {id g : Nat} (hb : lw x.h id g = true) (e : TypeId) (d : D) (l : List Value) (n : Nat) (hn : n < x.w.heap.size) : (x.new id g e d l).own n → x.own n := by
  rintro ⟨j, b, h1, h2, h3, h4⟩
  by_cases h : j = id
  · simp only [Cx.new] at h4
    rw [if_pos h] at h4; omega
  · rw [new_lv h] at h2
    simp only [Cx.new, newg_get hb] at h1 h4
    rw [if_neg h] at h1 h4
    exact ⟨j, b, h1, h2, h3, h4⟩
theorem new_ext {x : Cx} (hx : HR x) {id g : Nat} (hb : lw x.h id g = true) (e : TypeId) (d : D) (l : List Value) : Ext x (x.new id g e d l) := by
  refine ⟨⟨rfl, fun j b hj => ?_, fun n hn ho => ⟨?_, heap_alloc_lt _ _ _ hn⟩, by show _ ≤ (x.w.heap.push _).size; simp⟩, fun n hn ho => ⟨fun h => ho (new_own_iff hb e d l n hn h), heap_alloc_lt _ _ _ hn⟩, fun n _ ha _ => .inl ha⟩
  · simp only [Cx.new, newg_get hb]
    by_cases h : j = id
    · subst h
      have hg : b.gen < g := by unfold lw at hb; simp [hj] at hb; exact hb
      exact ⟨_, if_pos rfl, by simp; omega, fun h0 => by simp at h0; omega⟩
    · refine ⟨b, by rw [if_neg h]; exact hj, Nat.le_refl _, fun _ h0 => ⟨fun k => h0.2 k.2, if_neg h, ?_, Nat.le_refl _⟩⟩
      rw [if_neg h]
      exact shape_alloc _ _ _ (hx.lt hj h0)
  · rintro (h | h)
    · exact ho h
    · omega
theorem new_to {x : Cx} (hx : HR x) {id g : Nat} (hb : lw x.h id g = true) (e : TypeId) {d : D} {l : List Value} (fz : Nat × Nat) (hfz : fz.1 = fz.2 ∨ l.length ≤ fz.1) (hc : VRs x d.toV (l.take d.toV.length)) (h1s : ∀ v ∈ l, one v = true) (hgd : good x d (l.take d.toV.length)) : To x { x.new id g e d l with w := x.w.alloc (.cells l.toArray e fz) } := by
  have he0 := new_ext hx hb e d l
  have hheap : ∀ n, n ≠ x.w.heap.size → (x.w.alloc (.cells l.toArray e fz)).heap[n]? = (x.w.alloc (.cells l.toArray e)).heap[n]? := fun n hn => by
    rw [show (x.w.alloc (.cells l.toArray e fz)).heap = x.w.heap.push _ from rfl, show (x.w.alloc (.cells l.toArray e)).heap = x.w.heap.push _ from rfl, Array.getElem?_push, Array.getElem?_push, if_neg hn, if_neg hn]
  have hsz : (x.w.alloc (.cells l.toArray e fz)).heap.size = (x.w.alloc (.cells l.toArray e)).heap.size := by
    rw [show (x.w.alloc (.cells l.toArray e fz)).heap = x.w.heap.push _ from rfl, show (x.w.alloc (.cells l.toArray e)).heap = x.w.heap.push _ from rfl]; simp
  have hshape : ∀ n, (x.w.alloc (.cells l.toArray e fz)).shape? n = (x.w.alloc (.cells l.toArray e)).shape? n := fun n => by
    by_cases hn : n = x.w.heap.size
    · subst hn; unfold World.shape?; rw [heap_alloc_new', heap_alloc_new']
    · unfold World.shape?; rw [hheap n hn]
  have he : Ext x { x.new id g e d l with w := x.w.alloc (.cells l.toArray e fz) } := by
    refine ⟨⟨rfl, fun j b hj => ?_, fun n hn ho => ?_, ?_⟩, fun n hn ho => ?_, fun n hn ha ho => he0.keep n hn ha ho⟩
    · obtain ⟨b', k1, k2, k3⟩ := he0.mono.gens j b hj
      exact ⟨b', k1, k2, fun q1 q2 => by
        obtain ⟨p0, p1, p2, p3⟩ := k3 q1 q2
        refine ⟨p0, p1, ?_, p3⟩
        rw [← p2]; exact hshape _⟩
    · obtain ⟨k1, k2⟩ := he0.mono.blocks n hn ho
      exact ⟨k1, (hheap n (by omega)).trans k2⟩
    · show _ ≤ (x.w.alloc (.cells l.toArray e fz)).heap.size
      rw [hsz]; exact he0.mono.size
    · obtain ⟨k1, k2⟩ := he0.heap n hn ho
      exact ⟨k1, (hheap n (by omega)).trans k2⟩
  have lvn : ∀ j b, j ≠ id → Cx.lv { x.new id g e d l with w := x.w.alloc (.cells l.toArray e fz) } j b → x.lv j b := fun j b h k => (new_lv (l := l) (e := e) (d := d) (g := g) h).1 k
  refine ⟨he, ⟨fun j b hj hg hm => ?_, fun j b k es hj hg hd => ?_, fun i j b b' hi hg hj hg' hρ => ?_, fun n hn => ?_, fun n hn => ?_, fun j b hj hg => ?_⟩, ⟨rfl, rfl, rfl⟩⟩
  · have hg0 := lvn j b
    simp only [Cx.new, newg_get hb] at hj ⊢
    by_cases h : j = id
    · rw [if_pos h] at hj ⊢
      injection hj with hj; subst hj
      refine ⟨l.toArray, fz.1, fz.2, heap_alloc_new' _ _, by simpa using hfz, ?_, by simpa using h1s, hgd.mono he.mono⟩
      exact (by simpa using hc.mono he.mono : VRs { x.new id g e d l with w := x.w.alloc (.cells l.toArray e fz) } d.toV (l.toArray.toList.take d.toV.length))
    · rw [if_neg h] at hj ⊢
      obtain ⟨c, lo, hi, h1, h2, h3, h4, h5⟩ := hx.blk j b hj (hg0 h hg) hm
      exact ⟨c, lo, hi, by rw [heap_alloc_lt _ _ _ (hx.lt hj (hg0 h hg))]; exact h1, h2, h3.mono he.mono, h4, h5.mono he.mono⟩
  · have hg0 := lvn j b
    simp only [Cx.new, newg_get hb] at hj ⊢
    by_cases h : j = id
    · rw [if_pos h] at hj
      injection hj with hj; subst hj
      have := good_mpq hgd
      simp only at hd
      rw [hd] at this
      cases this
    · rw [if_neg h] at hj ⊢
      exact (hx.mps j b k es hj (hg0 h hg) hd).of (heap_alloc_lt _ _ _ (hx.lt hj (hg0 h hg)))
  · have g1 := lvn i b
    have g2 := lvn j b'
    simp only [Cx.new, newg_get hb] at hi hj hρ
    by_cases h : i = id <;> by_cases k : j = id
    · rw [h, k]
    · rw [if_pos h, if_neg k] at hρ
      rw [if_neg k] at hj
      have := hx.lt hj (g2 k hg'); omega
    · rw [if_neg h, if_pos k] at hρ
      rw [if_neg h] at hi
      have := hx.lt hi (g1 h hg); omega
    · rw [if_neg h] at hi hρ
      rw [if_neg k] at hj hρ
      exact hx.inj i j b b' hi (g1 h hg) hj (g2 k hg') hρ
  · obtain ⟨j, b, h1, h2, h3, h4⟩ := hn
    have g2 := lvn j b
    simp only [Cx.new, newg_get hb] at h1 h4 ⊢
    by_cases h : j = id
    · rw [if_pos h] at h4; exact .inr h4.symm
    · rw [if_neg h] at h1 h4
      exact .inl (hx.ownav n ⟨j, b, h1, g2 h h2, h3, h4⟩)
  · show n < (x.w.alloc (.cells l.toArray e fz)).heap.size
    have hsz : (x.w.alloc (.cells l.toArray e fz)).heap.size = x.w.heap.size + 1 := by
      rw [show (x.w.alloc (.cells l.toArray e fz)).heap = x.w.heap.push _ from rfl]; simp
    rw [hsz]
    rcases hn with hn | hn
    · have := hx.avlt n hn; omega
    · omega
  · have g2 := lvn j b
    simp only [Cx.new, newg_get hb] at hj ⊢
    by_cases h : j = id
    · rw [if_pos h] at hj; injection hj with hj; subst hj; exact .inl rfl
    · rw [if_neg h] at hj ⊢
      rcases hx.safe j b hj (g2 h hg) with p | p
      · exact .inl p
      · refine .inr (fun q => ?_)
        rcases q with q | q
        · exact p q
        · have := hx.lt hj (g2 h hg); omega
theorem new_to0 {x : Cx} (hx : HR x) {id g : Nat} (hb : lw x.h id g = true) (e : TypeId) {d : D} {l : List Value} (hc : VRs x d.toV (l.take d.toV.length)) (h1s : ∀ v ∈ l, one v = true) (hgd : good x d (l.take d.toV.length)) : To x (x.new id g e d l) :=
  new_to hx hb e (0, 0) (.inl (rfl)) hc h1s hgd
theorem new_ref {x : Cx} {id : Nat} (hb : blank x.h id = true) (e : TypeId) (d : D) (l : List Value) : VR (x.new id 1 e d l) (.ref id 1 0) (.pointer (some ⟨x.w.heap.size, 0, none⟩)) :=
  ⟨rfl, ⟨1, e, d, true⟩, by simp [Cx.new, newg_get (blank_lw hb)], by simp, fun _ _ => by simp [Cx.new]⟩
theorem new_own {x : Cx} {id g : Nat} (hb : lw x.h id g = true) (e : TypeId) (d : D) (l : List Value) (fz : Nat × Nat) (n cap sz : Nat) (hn : n ≤ cap) (hl : cap * sz = l.length) (hd : 0 < sz ∧ (n = 0 ∨ n * sz ≤ d.toV.length)) : VR { x.new id g e d l with w := x.w.alloc (.cells l.toArray e fz) } (.own id g 0 n sz) (.slice (some ⟨x.w.heap.size, 0, none⟩) n cap) := by
  refine ⟨rfl, ⟨g, e, d, true⟩, by simp [Cx.new, newg_get hb], by simp, fun _ _ => ⟨_, cap, rfl, hn, hd.1, .inr ⟨by simp [Cx.new], 0, by simp [Cx.new], by rw [Nat.zero_add]; exact hd.2, .inr ⟨rfl, e, l.length, ?_, by omega⟩⟩⟩⟩
  simp only [Cx.new, if_true]
  unfold World.shape?; rw [heap_alloc_new']; simp
theorem all_one {x : Cx} : ∀ {cs : List V} {l : List Value}, VRs x cs l → cs.all okc = true → ∀ v ∈ l, one v = true
  | [], _, h, _, v, hv => by subst h; cases hv
  | c :: cs, _, h, ho, v, hv => by
    obtain ⟨u, us, rfl, h1, h2⟩ := h
    simp only [List.all_cons, Bool.and_eq_true] at ho
    rcases List.mem_cons.1 hv with e | e
    · rw [e]; exact okc_one h1 ho.1
    · exact all_one h2 ho.2 v e
theorem lay_one : ∀ (us l : List Value) (o : Nat), (∀ v ∈ us, one v = true) → (∀ v ∈ l, one v = true) → ∀ v ∈ lay l o us, one v = true
  | [], _, _, _, h => h
  | u :: us, l, o, hu, h => lay_one us _ (o + 1) (fun v hv => hu v (List.mem_cons_of_mem _ hv)) fun v hv => by
    rcases List.mem_or_eq_of_mem_set hv with e | e
    · exact h v e
    · rw [e]; exact hu u (by simp)
def Does (x : Cx) (s : Sem Next) (r : V) (h' : Heap) : Prop :=
  ∃ n y, s.run x.P x.w = .ok n y.w ∧ To x y ∧ y.P = x.P ∧ y.h = h' ∧ ((∃ v, n = .value v ∧ VR y r v) ∨ (n = .skip ∧ r = .u))
theorem Does.pure_ {x : Cx} (hx : HR x) {s : Sem Value} {r : V} (h : ∃ z, s.run x.P x.w = .ok z x.w ∧ VR x r z) : Does x (do pure (.value (← s))) r x.h := by
  obtain ⟨z, h1, h2⟩ := h
  exact ⟨.value z, x, by simp only [Sem.run_bind, h1, Result.andThen_ok, Sem.run_pure], To.refl hx, rfl, rfl, .inl ⟨z, rfl, h2⟩⟩
theorem run_newRow (P : Program) (w : World) (e : TypeId) (cs : Array Value) : (newRow e cs).run P w = .ok ⟨w.heap.size, 0, none⟩ (w.alloc (.cells cs e)) := by
  simp [newRow, newObj]; rfl
theorem run_newVar (P : Program) (w : World) (e : TypeId) (v : Value) : (newVar e v).run P w = .ok ⟨w.heap.size, 0, none⟩ (w.alloc (.cells v.cells e)) := run_newRow P w e v.cells
def asInts (k : IntKind) : List V → Option (List Int)
  | [] => some []
  | .i k' n :: l => if k = k' then (match asInts k l with | some xs => some (n :: xs) | none => none) else none
  | _ => none
theorem asInts_ok {k : IntKind} : ∀ {cs : List V} {xs : List Int}, asInts k cs = some xs → xs.map (V.i k) = cs
  | [], _, h => by simp [asInts] at h; subst h; rfl
  | c :: cs, xs, h => by
    cases c with
    | i k' n =>
      simp only [asInts] at h
      split at h
      · rename_i hk; subst hk
        split at h
        · rename_i ys hy
          injection h with h; subst h
          simp [asInts_ok hy]
        · cases h
      · cases h
    | _ => simp [asInts] at h
def mixD : Nat → List V → List V → D
  | 0, p, cs => .list (p ++ cs)
  | n + 1, p, cs => match cs with
    | .i k a :: l => match Nat.ble 9 l.length with
      | true => match asInts k (.i k a :: l) with
        | some xs => .mix p k xs
        | none => mixD n (p ++ [.i k a]) l
      | false => .list (p ++ (.i k a :: l))
    | c :: l => match Nat.ble 9 l.length with
      | true => mixD n (p ++ [c]) l
      | false => .list (p ++ (c :: l))
    | [] => .list (p ++ [])
theorem mixD_toV : ∀ (n : Nat) (p cs : List V), (mixD n p cs).toV = p ++ cs
  | 0, p, cs => rfl
  | n + 1, p, cs => by
    unfold mixD
    split
    · split
      · split
        · rename_i h; simp only [D.toV]; rw [asInts_ok h]
        · rw [mixD_toV n]; simp
      · rfl
    · split
      · rw [mixD_toV n]; simp
      · rfl
    · rfl
def mkD (P : Program) (e : TypeId) (cs : List V) : D :=
  match P.underlying e with
  | some (.int k) => match asInts k cs with
    | some xs => .ints k xs
    | none => .list cs
  | _ => mixD 3 [] cs
theorem mkD_toV (P : Program) (e : TypeId) (cs : List V) : (mkD P e cs).toV = cs := by
  unfold mkD
  split
  · split
    · rename_i h; exact asInts_ok h
    · rfl
  · rw [mixD_toV]; rfl
theorem mkD_good {x : Cx} (P : Program) (e : TypeId) (cs : List V) {l : List Value} : good x (mkD P e cs) l := by
  unfold mkD
  split
  · split <;> trivial
  · have : ∀ (n : Nat) (p cs : List V), good x (mixD n p cs) l := fun n => by
      induction n with
      | zero => intro p cs; trivial
      | succ n ih =>
        intro p cs
        unfold mixD
        split
        · split
          · split
            · trivial
            · exact ih _ _
          · trivial
        · split
          · exact ih _ _
          · trivial
        · trivial
    exact this 3 [] cs
theorem box_ok {x : Cx} (hx : HR x) {id : Nat} (hb : blank x.h id = true) (e : TypeId) {c : V} {cs : List V} {v : Value} (hc : vcells c = some cs) (hok : cs.all okc = true) (hv : VR x c v) :
    Does x (do pure (.value (← Instr.box e v))) (.ref id 1 0) (newb x.h id e (mkD x.P e cs)) := by
  have h1 := VR_cells hv hc
  refine ⟨_, x.new id 1 e (mkD x.P e cs) v.cells.toList, ?_, new_to0 hx (blank_lw hb) e (by rw [mkD_toV, List.take_of_length_le (by rw [h1.length]; omega)]; exact h1) (all_one h1 hok) (mkD_good _ _ _), rfl, rfl, .inl ⟨_, rfl, new_ref hb e _ _⟩⟩
  simp [Instr.box, run_newVar, Cx.new]
theorem alloc_ok {x : Cx} (hx : HR x) {id : Nat} (hb : blank x.h id = true) (e : TypeId) {cs : List V} (hz : zcells x.P e = some cs) :
    Does x (do pure (.value (← Instr.alloc e true (.tuple #[])))) (.ref id 1 0) (newb x.h id e (mkD x.P e cs)) := by
  obtain ⟨z, h1, h2, h3⟩ := zcells_ok hz
  refine ⟨_, x.new id 1 e (mkD x.P e cs) z.cells.toList, ?_, new_to0 hx (blank_lw hb) e (by rw [mkD_toV, List.take_of_length_le (by rw [h2.length]; omega)]; exact h2) h3 (mkD_good _ _ _), rfl, rfl, .inl ⟨_, rfl, new_ref hb e _ _⟩⟩
  simp [Instr.alloc, h1, run_newVar, Cx.new]
def vload (P : Program) (t : TypeId) (cs : List V) (off : Nat) : Option V :=
  match aggOf P t, szOf P t with
  | some true, some n => if off + n ≤ cs.length then some (.agg ((cs.drop off).take n)) else none
  | some false, _ => cs[off]?
  | _, _ => none
theorem vload_ok {x : Cx} {t : TypeId} {cs : List V} {off bk o : Nat} {r : V} (h : vload x.P t cs off = some r) (hc : ∀ j c, cs[j]? = some c → ∃ v, x.w.cell? ⟨bk, o + j, none⟩ = some v ∧ VR x c v) :
    ∃ z, (loadVar t ⟨bk, o + off, none⟩).run x.P x.w = .ok z x.w ∧ VR x r z := by
  unfold vload at h
  split at h
  · rename_i n ha hs
    split at h
    · rename_i hb
      simp only [Option.some.injEq] at h; subst h
      have key : ∀ (ds : List V) (k : Nat), (∀ j c, ds[j]? = some c → ∃ v, x.w.cell? ⟨bk, k + j, none⟩ = some v ∧ VR x c v) → ∃ l : List Value, VRs x ds l ∧ ∀ j v, l[j]? = some v → x.w.cell? ⟨bk, k + j, none⟩ = some v := by
        intro ds
        induction ds with
        | nil => intro k _; exact ⟨[], rfl, fun j v h => by simp at h⟩
        | cons d ds ih =>
          intro k hd
          obtain ⟨v, hv, hr⟩ := hd 0 d rfl
          obtain ⟨l, h1, h2⟩ := ih (k + 1) (fun j c hj => by
            have := hd (j + 1) c (by simpa using hj)
            rwa [show k + (j + 1) = k + 1 + j by omega] at this)
          refine ⟨v :: l, ⟨v, l, rfl, hr, h1⟩, fun j u hj => ?_⟩
          cases j with
          | zero => simp at hj; subst hj; exact hv
          | succ j =>
            have := h2 j u (by simpa using hj)
            rwa [show k + 1 + j = k + (j + 1) by omega] at this
      obtain ⟨l, h1, h2⟩ := key ((cs.drop off).take n) (o + off) (fun j c hj => by
        rw [List.getElem?_take] at hj
        split at hj
        · rw [List.getElem?_drop] at hj
          have := hc _ c hj
          rwa [← Nat.add_assoc] at this
        · cases hj)
      refine ⟨.agg l.toArray, ?_, l, rfl, h1⟩
      have hlen : l.length = n := by rw [h1.length, List.length_take, List.length_drop]; omega
      have hld := run_loadCells_list (P := x.P) x.w ⟨bk, o + off, none⟩ l (fun j v hj => by rw [addr_add]; exact h2 j v hj)
      rw [hlen] at hld
      simp [loadVar, run_aggOf ha, run_szOf hs, hld]
    · cases h
  · rename_i ha
    obtain ⟨v, h1, h2⟩ := hc off r h
    refine ⟨v, ?_, h2⟩
    simp [loadVar, run_aggOf ha, load, Sem.run, h1]
  · cases h
theorem cs_mpq {b : Blk} {j : Nat} {c : V} (hc : b.cs[j]? = some c) : b.d.mpq = false := by
  unfold Blk.cs at hc
  cases hd : b.d with
  | bm => rw [hd] at hc; simp [D.toV] at hc
  | _ => rfl
theorem block_cell {x : Cx} (hx : HR x) {id : Nat} {b : Blk} (hb : x.h[id]? = some b) (hg : x.lv id b) (j : Nat) (c : V) (hc : b.cs[j]? = some c) : ∃ v, x.w.cell? ⟨x.ρ id, j, none⟩ = some v ∧ VR x c v := by
  obtain ⟨cs, lo, hi, h1, _, h3, _⟩ := hx.blk id b hb hg (cs_mpq hc)
  obtain ⟨v, hv, hr⟩ := h3.get j c hc
  refine ⟨v, ?_, hr⟩
  have hj : j < b.cs.length := (List.getElem?_eq_some_iff.1 hc).1
  rw [List.getElem?_take, if_pos hj] at hv
  simpa [World.cell?, h1] using hv
theorem block_cell1 {x : Cx} (hx : HR x) {id : Nat} {b : Blk} (hb : x.h[id]? = some b) (hg : x.lv id b) (j : Nat) (c : V) (hc : b.cs[j]? = some c) : ∃ v, x.w.cell? ⟨x.ρ id, j, none⟩ = some v ∧ one v = true ∧ VR x c v := by
  obtain ⟨cs, lo, hi, h1, _, h3, h4, _⟩ := hx.blk id b hb hg (cs_mpq hc)
  obtain ⟨v, hv, hr⟩ := h3.get j c hc
  have hj : j < b.cs.length := (List.getElem?_eq_some_iff.1 hc).1
  refine ⟨v, ?_, h4 v (List.mem_of_mem_take (List.mem_of_getElem? hv)), hr⟩
  rw [List.getElem?_take, if_pos hj] at hv
  simpa [World.cell?, h1] using hv
def blkOf (h : Heap) (id gen : Nat) : Option Blk := match h[id]? with | some b => if b.gen == gen && decide (0 < gen) && !b.d.mpq then some b else none | none => none
theorem blkOf_spec {h : Heap} {id gen : Nat} {b : Blk} (e : blkOf h id gen = some b) : h[id]? = some b ∧ b.gen = gen ∧ 0 < gen ∧ cur h id gen = true := by
  unfold blkOf at e
  split at e
  · rename_i b' hb
    split at e
    · rename_i hc
      injection e with e; subst e
      simp at hc
      exact ⟨hb, hc.1.1, hc.1.2, by simp [cur, hb, hc]⟩
    · cases e
  · cases e
theorem blkOf_mpq {h : Heap} {id gen : Nat} {b : Blk} (e : blkOf h id gen = some b) : b.d.mpq = false := by
  unfold blkOf at e
  split at e
  · split at e
    · rename_i hc
      injection e with e; subst e
      simp only [Bool.and_eq_true] at hc
      simpa using hc.2
    · cases e
  · cases e
theorem fit_length (sz : Nat) (l : List V) : (fit sz l).length = sz := by simp [fit]
theorem fit_id {sz : Nat} {l : List V} (h : l.length = sz) : fit sz l = l := by subst h; simp [fit]
theorem fitted_length (sz : Nat) (g : Nat → List V) : ∀ n, (fitted sz g n).length = n * sz
  | 0 => by simp [fitted]
  | n + 1 => by simp [fitted, fitted_length sz g n, fit_length, Nat.succ_mul]
theorem fitted_congr {sz : Nat} {g f : Nat → List V} : ∀ {n : Nat}, (∀ j, j < n → g j = f j) → fitted sz g n = fitted sz f n
  | 0, _ => rfl
  | n + 1, h => by simp only [fitted]; rw [fitted_congr (fun j hj => h j (by omega)), h n (by omega)]
theorem fitted_get {sz : Nat} {g : Nat → List V} {row k : Nat} (hk : k < sz) : ∀ {n : Nat}, row < n → (fitted sz g n)[row * sz + k]? = (fit sz (g row))[k]?
  | 0, h => by omega
  | n + 1, h => by
    simp only [fitted]
    by_cases hr : row = n
    · subst hr
      rw [List.getElem?_append_right (by rw [fitted_length]; omega), fitted_length]
      congr 1; omega
    · have h1 : row * sz + k < n * sz := by
        have : (row + 1) * sz ≤ n * sz := Nat.mul_le_mul_right _ (by omega)
        rw [Nat.succ_mul] at this; omega
      rw [List.getElem?_append_left (by rw [fitted_length]; exact h1)]
      exact fitted_get hk (by omega)
def joinV (c : Bool) (a b : V) : V := match a, b with
  | .i k x, .i k' y => match decide (k = k') with
    | true => .i k (cond c x y)
    | false => cond c (.i k x) (.i k' y)
  | .b x, .b y => .b (cond c x y)
  | .si n k xs, .si m k' ys => match decide (k = k') with
    | true => .si (cond c n m) k (cond c xs ys)
    | false => cond c (.si n k xs) (.si m k' ys)
  | a, b => cond c a b
theorem joinV_t (a b : V) : joinV true a b = a := by
  unfold joinV
  split
  · split <;> rfl
  · rfl
  · split <;> rfl
  · rfl
theorem joinV_f (a b : V) : joinV false a b = b := by
  unfold joinV
  split
  · split
    · rename_i h; have h := of_decide_eq_true h; subst h; rfl
    · rfl
  · rfl
  · split
    · rename_i h; have h := of_decide_eq_true h; subst h; rfl
    · rfl
  · rfl
def joinL (c : Bool) : List V → List V → List V
  | a :: l, b :: m => joinV c a b :: joinL c l m
  | [], [] => []
  | l, m => cond c l m
theorem joinL_t : ∀ l m : List V, joinL true l m = l
  | [], [] => rfl
  | [], _ :: _ => rfl
  | _ :: _, [] => rfl
  | a :: l, b :: m => by unfold joinL; rw [joinV_t, joinL_t l m]
theorem joinL_f : ∀ l m : List V, joinL false l m = m
  | [], [] => rfl
  | [], _ :: _ => rfl
  | _ :: _, [] => rfl
  | a :: l, b :: m => by unfold joinL; rw [joinV_f, joinL_f l m]
def upd (g : Nat → List V) (row : Nat) (c : List V) : Nat → List V := fun j => joinL (Nat.beq j row) c (g j)
theorem upd_at (g : Nat → List V) (row : Nat) (c : List V) : upd g row c row = c := by unfold upd; rw [Nat.beq_refl, joinL_t]
theorem upd_ne {g : Nat → List V} {row j : Nat} {c : List V} (h : j ≠ row) : upd g row c j = g j := by
  unfold upd
  cases hb : Nat.beq j row with
  | true => exact absurd (Nat.eq_of_beq_eq_true hb) h
  | false => exact joinL_f _ _
theorem lay_app_left {α : Type} : ∀ (vs A B : List α) (o : Nat), o + vs.length ≤ A.length → lay (A ++ B) o vs = lay A o vs ++ B
  | [], _, _, _, _ => rfl
  | v :: vs, A, B, o, h => by
    simp only [lay, List.length_cons] at h ⊢
    rw [List.set_append, if_pos (by omega)]
    exact lay_app_left vs _ B (o + 1) (by simp; omega)
theorem lay_app_right {α : Type} : ∀ (vs A B : List α) (o : Nat), lay (A ++ B) (A.length + o) vs = A ++ lay B o vs
  | [], _, _, _ => rfl
  | v :: vs, A, B, o => by
    simp only [lay]
    rw [List.set_append, if_neg (by omega), Nat.add_sub_cancel_left, Nat.add_assoc]
    exact lay_app_right vs A _ (o + 1)
theorem fitted_lay {sz row fld : Nat} {g : Nat → List V} {vs : List V} (hf : fld + vs.length ≤ sz) : ∀ {n : Nat}, row < n → fitted sz (upd g row (lay (fit sz (g row)) fld vs)) n = lay (fitted sz g n) (row * sz + fld) vs
  | 0, h => by omega
  | n + 1, h => by
    simp only [fitted]
    by_cases hr : row = n
    · subst hr
      rw [upd_at, fit_id (l := lay (fit sz (g row)) fld vs) (by rw [lay_length, fit_length]), fitted_congr (f := g) (fun j hj => upd_ne (by omega))]
      have := lay_app_right vs (fitted sz g row) (fit sz (g row)) fld
      rw [fitted_length] at this
      exact this.symm
    · rw [upd_ne (Ne.symm hr), fitted_lay hf (by omega), lay_app_left]
      rw [fitted_length]
      have : (row + 1) * sz ≤ n * sz := Nat.mul_le_mul_right _ (by omega)
      rw [Nat.succ_mul] at this; omega
theorem fitted_drop {sz : Nat} {g : Nat → List V} {row fld n m : Nat} (hr : row < n) (hf : fld + m ≤ sz) : ((fitted sz g n).drop (row * sz + fld)).take m = ((fit sz (g row)).drop fld).take m := by
  apply List.ext_getElem?
  intro i
  rw [List.getElem?_take, List.getElem?_take]
  split
  · rw [List.getElem?_drop, List.getElem?_drop, Nat.add_assoc]
    exact fitted_get (by omega) hr
  · rfl
def xsV (k : IntKind) (xs : List Int) : Nat → Nat → List V
  | _, 0 => []
  | j, n + 1 => .i k (xs.getD j 0) :: xsV k xs (j + 1) n
theorem xsV_eq (k : IntKind) (xs : List Int) : ∀ (n j : Nat), j + n ≤ xs.length → xsV k xs j n = ((xs.drop j).take n).map (.i k)
  | 0, j, _ => by simp [xsV]
  | n + 1, j, h => by
    have hj : j < xs.length := by omega
    rw [List.drop_eq_getElem_cons hj]
    simp only [xsV, List.take_succ_cons, List.map_cons, xsV_eq k xs n (j + 1) (by omega)]
    simp [List.getD, hj]
theorem aggOf_int {P : Program} {t : TypeId} {k : IntKind} (h : P.underlying t = some (.int k)) : aggOf P t = some false := by unfold aggOf; rw [h]
def vloadD (P : Program) (t : TypeId) (d : D) (off : Nat) : Option V :=
  match d with
  | .list cs => vload P t cs off
  | .ints k xs => match aggOf P t with
    | some false => if off < xs.length then some (.i k (xs.getD off 0)) else none
    | _ => none
  | .recs _ _ _ => none
  | .mix pre k xs => match P.underlying t with
    | some (.int _) => if pre.length ≤ off ∧ off < pre.length + xs.length then some (.i k (xs.getD (off - pre.length) 0)) else none
    | _ => match aggOf P t with
      | some false => pre[off]?
      | some true => match szOf P t with
        | some n => match off with
          | 0 => if n = pre.length + xs.length then some (.agg (pre ++ xsV k xs 0 (n - pre.length))) else none
          | o + 1 => if pre.length ≤ o + 1 ∧ o + 1 + n ≤ pre.length + xs.length then some (.agg (xsV k xs (o + 1 - pre.length) n)) else none
        | none => none
      | none => none
  | .bm _ _ => none
theorem vloadD_mix {P : Program} {t : TypeId} {pre : List V} {k : IntKind} {xs : List Int} {off : Nat} {r : V} (h : vloadD P t (.mix pre k xs) off = some r) : vload P t (D.mix pre k xs).toV off = some r := by
  simp only [vloadD] at h
  split at h
  · rename_i kk hu
    split at h
    · rename_i hlt
      injection h with h; subst h
      unfold vload
      simp only [aggOf_int hu]
      have h1 : off - pre.length < xs.length := by omega
      cases szOf P t <;> simp [D.toV, List.getElem?_append_right hlt.1, h1]
    · cases h
  · split at h
    · rename_i ha
      unfold vload
      simp only [ha]
      have h1 : off < pre.length := (List.getElem?_eq_some_iff.1 h).1
      cases szOf P t <;> simp only [D.toV, List.getElem?_append_left h1, h]
    · rename_i ha
      split at h
      · rename_i n hn
        split at h
        · split at h
          · rename_i hc
            subst hc
            injection h with h; subst h
            unfold vload
            simp only [ha, hn]
            rw [xsV_eq _ _ _ _ (by omega)]
            have e1 : pre.length + xs.length - pre.length = xs.length := by omega
            have e2 : (pre ++ xs.map (V.i k)).take (pre.length + xs.length) = pre ++ xs.map (V.i k) := List.take_of_length_le (by simp)
            rw [e1]
            simp [D.toV, e2]
          · cases h
        · rename_i o
          split at h
          · rename_i hc
            injection h with h; subst h
            unfold vload
            simp only [ha, hn]
            rw [xsV_eq _ _ _ _ (by omega)]
            have e2 : (pre ++ xs.map (V.i k)).drop (o + 1) = (xs.map (V.i k)).drop (o + 1 - pre.length) := by
              rw [List.drop_append, List.drop_of_length_le (by omega), List.nil_append]
            have hl : (D.mix pre k xs).toV.length = pre.length + xs.length := by simp [D.toV]
            rw [if_pos (by rw [hl]; omega)]
            show some (V.agg (((pre ++ xs.map (V.i k)).drop (o + 1)).take n)) = _
            rw [e2, List.map_take, List.map_drop]
          · cases h
      · cases h
    · cases h
theorem vloadD_toV {P : Program} {t : TypeId} {d : D} {off : Nat} {r : V} (h : vloadD P t d off = some r) : vload P t d.toV off = some r := by
  unfold vloadD at h
  split at h
  · exact h
  · split at h
    · rename_i k xs ha
      split at h
      · rename_i hlt
        injection h with h; subst h
        unfold vload
        simp only [ha]
        cases szOf P t <;> simp [D.toV, hlt]
      · cases h
    · cases h
  · cases h
  · exact vloadD_mix h
  · cases h
def vloadR (P : Program) (t : TypeId) (d : D) (row sz fld : Nat) : Option V :=
  match d with
  | .recs n s g => if s = sz ∧ row < n then vload P t (fit s (g row)) fld else none
  | _ => none
theorem vloadR_toV {P : Program} {t : TypeId} {d : D} {row sz fld : Nat} {r : V} (h : vloadR P t d row sz fld = some r) : vload P t d.toV (row * sz + fld) = some r := by
  unfold vloadR at h
  split at h
  · rename_i n s g
    split at h
    · rename_i hc
      obtain ⟨rfl, hr⟩ := hc
      unfold vload at h ⊢
      split at h
      · rename_i m ha hm
        split at h
        · rename_i hl
          rw [fit_length] at hl
          injection h with h
          have h1 : row * s + fld + m ≤ n * s := by
            have : (row + 1) * s ≤ n * s := Nat.mul_le_mul_right _ (by omega)
            rw [Nat.succ_mul] at this; omega
          rw [if_pos (by simp only [D.toV, fitted_length]; exact h1)]
          simp only [D.toV]
          rw [fitted_drop hr hl, h]
        · cases h
      · have hf : fld < s := by
          have := (List.getElem?_eq_some_iff.1 h).1
          rwa [fit_length] at this
        simp only [D.toV]
        rw [fitted_get hf hr, h]
      · cases h
    · cases h
  · cases h
def vloadAt (P : Program) (h : Heap) (t : TypeId) : V → Option V
  | .ref id gen off => match blkOf h id gen with
    | some b => vloadD P t b.d off
    | none => none
  | .pl cs => vload P t cs 0
  | .rrf id gen row sz fld => match blkOf h id gen with
    | some b => vloadR P t b.d row sz fld
    | none => none
  | _ => none
theorem vloadAt_ok {x : Cx} (hx : HR x) {t : TypeId} {c r : V} {v : Value} (h : vloadAt x.P x.h t c = some r) (hv : VR x c v) : ∃ z, (Instr.loadAt t v).run x.P x.w = .ok z x.w ∧ VR x r z := by
  unfold vloadAt at h
  split at h
  · rename_i id gen off
    split at h
    · rename_i b hb
      obtain ⟨h1, h2, h3, h4⟩ := blkOf_spec hb
      rw [cur_ref h4 hv]
      obtain ⟨z, k1, k2⟩ := vload_ok (bk := x.ρ id) (o := 0) (vloadD_toV h) (fun j c hj => by
        rw [Nat.zero_add]; exact block_cell hx h1 (cur_lv h1 h2 h3 hv) j c hj)
      refine ⟨z, ?_, k2⟩
      rw [Nat.zero_add] at k1
      simpa [Instr.loadAt, Instr.sureAddr] using k1
    · cases h
  · rename_i cs
    obtain ⟨bk, off, rfl, hr⟩ := hv
    obtain ⟨z, k1, k2⟩ := vload_ok (x := x) (bk := bk) (o := off) h (fun j c hj => by
      rcases hr with h0 | ⟨_, hs⟩
      · subst h0; simp at hj
      · obtain ⟨v, p, q⟩ := hs.get j c hj
        exact ⟨v, p, q.mono (Mono.unbare x)⟩)
    exact ⟨z, by simpa [Instr.loadAt, Instr.sureAddr] using k1, k2⟩
  · rename_i id gen row sz fld
    split at h
    · rename_i b hb
      obtain ⟨h1, h2, h3, h4⟩ := blkOf_spec hb
      rw [cur_rrf h4 hv]
      obtain ⟨z, k1, k2⟩ := vload_ok (bk := x.ρ id) (o := 0) (vloadR_toV h) (fun j c hj => by
        rw [Nat.zero_add]; exact block_cell hx h1 (cur_lvr h1 h2 h3 hv) j c hj)
      refine ⟨z, ?_, k2⟩
      rw [Nat.zero_add] at k1
      simpa [Instr.loadAt, Instr.sureAddr] using k1
    · cases h
  · cases h
def layA : Array Value → Nat → List Value → Array Value
  | a, _, [] => a
  | a, o, v :: r => layA (a.setIfInBounds o v) (o + 1) r
theorem layA_toList : ∀ (vs : List Value) (a : Array Value) (o : Nat), (layA a o vs).toList = lay a.toList o vs
  | [], _, _ => rfl
  | v :: vs, a, o => by simp [layA, lay, layA_toList vs]
theorem setCells_heap (b : Nat) (el : TypeId) (fz : Nat × Nat) : ∀ (vs : List Value) (o : Nat) (w : World) (cs : Array Value), w.heap[b]? = some (.cells cs el fz) → (w.setCells b o vs).heap[b]? = some (.cells (layA cs o vs) el fz)
  | [], _, _, _, h => h
  | v :: vs, o, w, cs, h => by
    rw [World.setCells]
    refine setCells_heap b el fz vs (o + 1) _ (cs.setIfInBounds o v) ?_
    simp [World.setCell, Array.getElem?_modify, h]
theorem setCells_other (b n : Nat) (hn : n ≠ b) : ∀ (vs : List Value) (o : Nat) (w : World), (w.setCells b o vs).heap[n]? = w.heap[n]?
  | [], _, _ => rfl
  | v :: vs, o, w => by
    rw [World.setCells, setCells_other b n hn vs]
    simp [World.setCell, Array.getElem?_modify, Ne.symm hn]
theorem setCells_size (b : Nat) : ∀ (vs : List Value) (o : Nat) (w : World), (w.setCells b o vs).heap.size = w.heap.size
  | [], _, _ => rfl
  | v :: vs, o, w => by rw [World.setCells, setCells_size b vs]; simp
theorem setCells_beside (b : Nat) : ∀ (vs : List Value) (o : Nat) (w : World), Beside w (w.setCells b o vs)
  | [], _, _ => Beside.refl _
  | v :: vs, o, w => by
    rw [World.setCells]
    exact Beside.trans (b := w.setCell ⟨b, o, none⟩ v) ⟨rfl, rfl, rfl⟩ (setCells_beside b vs (o + 1) _)
def Cx.wrote (x : Cx) (id : Nat) (b : Blk) (off : Nat) (d : D) (us : List Value) : Cx :=
  { P := x.P, w := x.w.setCells (x.ρ id) off us, ρ := x.ρ, h := x.h.set id { b with d := d }, av := x.av, ph := x.ph }
theorem wrote_get {x : Cx} {id : Nat} {b b' : Blk} (hb : x.h[id]? = some b) (j : Nat) : (x.h.set id b')[j]? = if j = id then some b' else x.h[j]? := by
  rw [List.getElem?_set]
  have hlt : id < x.h.length := (List.getElem?_eq_some_iff.1 hb).1
  by_cases hj : id = j
  · subst hj; simp [hlt]
  · simp [hj, Ne.symm hj]
theorem wrote_to {x : Cx} (hx : HR x) {id : Nat} {b : Blk} (hb : x.h[id]? = some b) (hg : x.lv id b) (hm : b.d.mpq = false) (hw : b.wr = true) {off : Nat} {vs : List V} {us : List Value} (hv : VRs x vs us) (hus : ∀ u ∈ us, one u = true) (hlen : off + vs.length ≤ b.cs.length) {d : D} (hd : d.toV = lay b.cs off vs) (hgd : ∀ l : List Value, good x b.d l → good x d (lay l off us)) : To x (x.wrote id b off d us) := by
  obtain ⟨cs, lo, hi, h1, h2, h3, hone, hgood⟩ := hx.blk id b hb hg hm
  have hheap := setCells_heap (x.ρ id) b.elem (lo, hi) us off x.w cs h1
  have hsz : (layA cs off us).size = cs.size := by rw [← Array.length_toList, layA_toList, lay_length]; simp
  have hne : ∀ j b', x.h[j]? = some b' → x.lv j b' → j ≠ id → x.ρ j ≠ x.ρ id := fun j b' hj hg' hji e => hji (hx.inj j id b' b hj hg' hb hg e)
  have hown : x.own (x.ρ id) := ⟨id, b, hb, hg, hw, rfl⟩
  have howns : ∀ n, (x.wrote id b off d us).own n → x.own n := by
    rintro n ⟨j, b', k1, k2, k3, k4⟩
    simp only [Cx.wrote, wrote_get hb] at k1 k4
    by_cases h : j = id
    · subst h; exact ⟨j, b, hb, hg, hw, k4⟩
    · rw [if_neg h] at k1; exact ⟨j, b', k1, k2, k3, k4⟩
  have ext : Ext x (x.wrote id b off d us) := by
    refine ⟨⟨rfl, fun j b' hj => ?_, fun n hn ho => ⟨ho, setCells_other _ _ (by rintro rfl; exact ho (hx.ownav _ hown)) _ _ _⟩, by simp [Cx.wrote, setCells_size]⟩, fun n hn ho => ⟨fun h => ho (howns n h), setCells_other _ _ (by rintro rfl; exact ho hown) _ _ _⟩, fun _ _ ha _ => ha⟩
    simp only [Cx.wrote, wrote_get hb]
    by_cases h : j = id
    · subst h
      rw [hb] at hj; injection hj with hj; subst hj
      refine ⟨_, if_pos rfl, Nat.le_refl _, fun _ _ => ⟨hg.2, trivial, ?_, ?_⟩⟩
      · simp [World.shape?, h1, hheap, hsz]
      · show b.d.toV.length ≤ d.toV.length
        rw [hd, lay_length]; exact Nat.le_refl _
    · refine ⟨b', by rw [if_neg h]; exact hj, Nat.le_refl _, fun _ h0 => ⟨h0.2, trivial, ?_, Nat.le_refl _⟩⟩
      unfold World.shape?
      rw [setCells_other _ _ (hne j b' hj h0 h)]
  refine ⟨ext, ⟨fun j b' hj hg' hm' => ?_, fun j b' k es hj hg' hdm => ?_, fun i j b1 b2 hi hg1 hj hg2 hρ => ?_, fun n hn => hx.ownav n (howns n hn), fun n hn => by simp only [Cx.wrote, setCells_size]; exact hx.avlt n hn, fun j b' hj hg' => ?_⟩, setCells_beside _ _ _ _⟩
  · have hj' := hj
    simp only [Cx.wrote, wrote_get hb] at hj'
    by_cases h : j = id
    · subst h
      rw [if_pos rfl] at hj'; injection hj' with hj'; subst hj'
      refine ⟨layA cs off us, lo, hi, hheap, by rw [hsz]; exact h2, ?_, by rw [layA_toList]; exact lay_one us _ off hus hone, ?_⟩
      show VRs (x.wrote j b off d us) d.toV ((layA cs off us).toList.take d.toV.length)
      rw [layA_toList, hd, lay_length]
      have hl3 := h3.length
      have hu := hv.length
      rw [lay_take _ _ _ _ (by omega)]
      exact (VRs.lay_ off hv h3).mono ext.mono
      have hl3 := h3.length
      have hu := hv.length
      show good _ d ((layA cs off us).toList.take d.toV.length)
      rw [layA_toList, hd, lay_length, lay_take _ _ _ _ (by omega)]
      exact (hgd _ hgood).mono ext.mono
    · rw [if_neg h] at hj'
      obtain ⟨c, lo', hi', k1, k2, k3, k4, k5⟩ := hx.blk j b' hj' hg' hm'
      exact ⟨c, lo', hi', by
        show (x.w.setCells (x.ρ id) off us).heap[x.ρ j]? = _
        rw [setCells_other _ _ (hne j b' hj' hg' h)]; exact k1, k2, k3.mono ext.mono, k4, k5.mono ext.mono⟩
  · have hj' := hj
    simp only [Cx.wrote, wrote_get hb] at hj'
    by_cases h : j = id
    · subst h
      rw [if_pos rfl] at hj'; injection hj' with hj'; subst hj'
      have := good_mpq (hgd _ hgood)
      simp only at hdm
      rw [hdm] at this
      cases this
    · rw [if_neg h] at hj'
      exact (hx.mps j b' k es hj' hg' hdm).of (setCells_other _ _ (hne j b' hj' hg' h) _ _ _)
  · simp only [Cx.wrote, wrote_get hb] at hi hj
    have fi : ∃ c, x.h[i]? = some c ∧ x.lv i c := by
      by_cases h : i = id
      · subst h; exact ⟨b, hb, hg⟩
      · rw [if_neg h] at hi; exact ⟨b1, hi, hg1⟩
    have fj : ∃ c, x.h[j]? = some c ∧ x.lv j c := by
      by_cases h : j = id
      · subst h; exact ⟨b, hb, hg⟩
      · rw [if_neg h] at hj; exact ⟨b2, hj, hg2⟩
    obtain ⟨c1, p1, p2⟩ := fi
    obtain ⟨c2, q1, q2⟩ := fj
    exact hx.inj i j c1 c2 p1 p2 q1 q2 hρ
  · simp only [Cx.wrote, wrote_get hb] at hj
    by_cases h : j = id
    · rw [if_pos h] at hj; injection hj with hj; subst hj; exact .inl hw
    · rw [if_neg h] at hj; exact hx.safe j b' hj hg'
theorem lay_all : ∀ (vs l : List V), vs.length = l.length → lay l 0 vs = vs := by
  have key : ∀ (vs p l : List V), vs.length = l.length → lay (p ++ l) p.length vs = p ++ vs := by
    intro vs
    induction vs with
    | nil => intro p l h; cases l with
      | nil => rfl
      | cons _ _ => cases h
    | cons v vs ih => intro p l h; cases l with
      | nil => cases h
      | cons a l =>
        simp only [lay]
        rw [List.set_append, if_neg (by omega), Nat.sub_self, List.set_cons_zero]
        have := ih (p ++ [v]) l (by simpa using h)
        simp only [List.append_assoc, List.cons_append, List.nil_append, List.length_append, List.length_cons, List.length_nil, Nat.zero_add] at this
        exact this
  exact fun vs l h => key vs [] l h
def vlayD (d : D) (off : Nat) (vs : List V) : Option D :=
  match d with
  | .list cs => if off + vs.length ≤ cs.length then some (.list (lay cs off vs)) else none
  | .ints k xs => match vs with
    | [.i k' n] => if k = k' ∧ off < xs.length then some (.ints k (xs.set off n)) else none
    | _ => none
  | .recs _ _ _ => none
  | .mix pre k xs => match vs with
    | [.i k' n] => if k = k' ∧ pre.length ≤ off ∧ off < pre.length + xs.length then some (.mix pre k (xs.set (off - pre.length) n)) else none
    | [c] => if off < pre.length then some (.mix (pre.set off c) k xs) else none
    | vs => match asInts k (vs.drop pre.length) with
      | some ys => if off = 0 ∧ ys.length = xs.length ∧ pre.length ≤ vs.length then some (.mix (vs.take pre.length) k ys) else none
      | none => none
  | .bm _ _ => none
theorem vlayD_mix {pre : List V} {k : IntKind} {xs : List Int} {d' : D} {off : Nat} {vs : List V} (h : vlayD (.mix pre k xs) off vs = some d') : d'.toV = lay (D.mix pre k xs).toV off vs ∧ off + vs.length ≤ (D.mix pre k xs).toV.length := by
  simp only [vlayD] at h
  split at h
  · rename_i k' n
    split at h
    · rename_i hc
      obtain ⟨rfl, h1, h2⟩ := hc
      injection h with h; subst h
      refine ⟨?_, by simp [D.toV]; omega⟩
      simp only [D.toV, lay]
      rw [List.set_append, if_neg (by omega), List.map_set]
    · cases h
  · rename_i c _
    split at h
    · rename_i hc
      injection h with h; subst h
      refine ⟨?_, by simp [D.toV]; omega⟩
      simp only [D.toV, lay]
      rw [List.set_append, if_pos hc]
    · cases h
  · split at h
    · rename_i ys hys
      split at h
      · rename_i hc
        obtain ⟨rfl, h1, h2⟩ := hc
        injection h with h; subst h
        have h3 := asInts_ok hys
        have hl : vs.length = pre.length + xs.length := by
          have := congrArg List.length h3
          simp at this; omega
        refine ⟨?_, by simp [D.toV]; omega⟩
        simp only [D.toV]
        rw [h3, List.take_append_drop, lay_all _ _ (by simp; omega)]
      · cases h
    · cases h
theorem vlayD_toV {d d' : D} {off : Nat} {vs : List V} (h : vlayD d off vs = some d') : d'.toV = lay d.toV off vs ∧ off + vs.length ≤ d.toV.length := by
  unfold vlayD at h
  split at h
  · split at h
    · rename_i hl; injection h with h; subst h; exact ⟨rfl, hl⟩
    · cases h
  · split at h
    · rename_i k xs k' n
      split at h
      · rename_i hc
        obtain ⟨rfl, hc⟩ := hc
        injection h with h; subst h
        refine ⟨?_, by simp [D.toV]; omega⟩
        simp [D.toV, lay, List.map_set]
      · cases h
    · cases h
  · cases h
  · exact vlayD_mix h
  · cases h
def vlayR (d : D) (row sz fld : Nat) (vs : List V) : Option D :=
  match d with
  | .recs n s g => if s = sz ∧ row < n then (if fld + vs.length ≤ s ∧ vs.all bareOk = true then some (.recs n s (upd g row (lay (fit s (g row)) fld vs))) else none) else none
  | _ => none
theorem vlayR_toV {d d' : D} {row sz fld : Nat} {vs : List V} (h : vlayR d row sz fld vs = some d') : d'.toV = lay d.toV (row * sz + fld) vs ∧ row * sz + fld + vs.length ≤ d.toV.length := by
  unfold vlayR at h
  split at h
  · rename_i n s g
    split at h
    · rename_i hc
      obtain ⟨rfl, hr⟩ := hc
      split at h
      · rename_i hl
        obtain ⟨hl, _⟩ := hl
        injection h with h; subst h
        refine ⟨fitted_lay hl hr, ?_⟩
        simp only [D.toV, fitted_length]
        have : (row + 1) * s ≤ n * s := Nat.mul_le_mul_right _ (by omega)
        rw [Nat.succ_mul] at this; omega
      · cases h
    · cases h
  · cases h
def vstoreAt (P : Program) (h : Heap) (t : TypeId) (a c : V) : Option Heap :=
  match a with
  | .ref id gen off => match blkOf h id gen, vcells c, szOf P t with
    | some b, some vs, some n => if vs.length = n ∧ vs.all okc = true ∧ b.wr = true then (match vlayD b.d off vs with
      | some d => some (h.set id { b with d := d })
      | none => none) else none
    | _, _, _ => none
  | .rrf id gen row sz fld => match blkOf h id gen, vcells c, szOf P t with
    | some b, some vs, some n => if vs.length = n ∧ vs.all okc = true ∧ b.wr = true then (match vlayR b.d row sz fld vs with
      | some d => some (h.set id { b with d := d })
      | none => none) else none
    | _, _, _ => none
  | _ => none
theorem vlayD_good {x : Cx} {d d' : D} {off : Nat} {vs : List V} {l m : List Value} (h : vlayD d off vs = some d') : good x d' m := by
  unfold vlayD at h
  split at h
  · split at h
    · injection h with h; subst h; trivial
    · cases h
  · split at h
    · split at h
      · injection h with h; subst h; trivial
      · cases h
    · cases h
  · cases h
  · split at h
    · split at h
      · injection h with h; subst h; trivial
      · cases h
    · split at h
      · injection h with h; subst h; trivial
      · cases h
    · split at h
      · split at h
        · injection h with h; subst h; trivial
        · cases h
      · cases h
  · cases h
theorem vlayR_good {x : Cx} {d d' : D} {row sz fld : Nat} {vs : List V} {us l : List Value} (h : vlayR d row sz fld vs = some d') (hv : VRs x vs us) (hg : good x d l) : good x d' (lay l (row * sz + fld) us) := by
  unfold vlayR at h
  split at h
  · rename_i n s g
    split at h
    · rename_i hc
      obtain ⟨rfl, hr⟩ := hc
      split at h
      · rename_i hl
        obtain ⟨hl, hb⟩ := hl
        injection h with h; subst h
        refine ⟨fun j hj => ?_, ?_⟩
        · by_cases hjr : j = row
          · subst hjr; rw [upd_at, lay_length, fit_length]
          · rw [upd_ne hjr]; exact hg.1 j hj
        · rw [fitted_lay hl hr]
          exact VRs.lay_ _ (VRs_bareOk hb hv) hg.2
      · cases h
    · cases h
  · cases h
theorem store_at {x : Cx} (hx : HR x) {t : TypeId} {c : V} {u : Value} {id off : Nat} {b : Blk} {vs : List V} {n : Nat} {d : D} (h1 : x.h[id]? = some b) (hg : x.lv id b) (hm : b.d.mpq = false) (hvs : vcells c = some vs) (hn : szOf x.P t = some n) (c1 : vs.length = n) (c3 : vs.all okc = true) (c4 : b.wr = true)
    (hd1 : d.toV = lay b.cs off vs) (c2 : off + vs.length ≤ b.cs.length) (hc : VR x c u) (hgd : VRs x vs u.cells.toList → ∀ l : List Value, good x b.d l → good x d (lay l off u.cells.toList)) : Does x (do Instr.storeAt t (.pointer (some ⟨x.ρ id, off, none⟩)) u; pure .skip) .u (x.h.set id { b with d := d }) := by
  have hcs := VR_cells hc hvs
  obtain ⟨cs, lo, hi, k1, k2, k3, _⟩ := hx.blk id b h1 hg hm
  have hl3 := k3.length
  rw [List.length_take] at hl3
  simp only [Array.length_toList] at hl3
  have hlu := hcs.length
  refine ⟨.skip, x.wrote id b off d u.cells.toList, ?_, wrote_to hx h1 hg hm c4 hcs (all_one hcs c3) c2 hd1 (hgd hcs), rfl, rfl, .inr ⟨rfl, rfl⟩⟩
  have hst := run_storeCells_cells (P := x.P) (x.ρ id) off u.cells.toList 0 x.w (fun j hj => by
      have hj' : off + 0 + j < cs.size := by omega
      simp only [World.cell?, k1, Option.isSome_none, Bool.false_eq_true, if_false]
      rw [Array.getElem?_eq_getElem hj']; rfl) (fun j hj => by
      simp only [World.frozen?, k1]
      have hj' : off + 0 + j < cs.size := by omega
      rcases k2 with k2 | k2
      · simp; omega
      · simp; omega) (fun w hw => by
      obtain ⟨j, hj, rfl⟩ := List.getElem_of_mem hw
      have hjv : j < vs.length := by omega
      obtain ⟨z, hz, hr⟩ := hcs.get j vs[j] (List.getElem?_eq_getElem hjv)
      rw [List.getElem?_eq_getElem hj] at hz
      injection hz with hz
      rw [hz]
      have := okc_one hr (by
        have := List.all_eq_true.1 c3 vs[j] (List.getElem_mem hjv)
        exact this)
      revert this; cases z <;> simp [one, Value.oneCell'])
  have hsz : u.cells.size = n := by rw [← Array.length_toList, hlu]; exact c1
  simp [Instr.storeAt, Instr.sureAddr, storeVar, run_szOf hn, hsz, Cx.wrote]
  rw [Nat.add_zero] at hst
  rw [hst]; rfl
theorem vstoreAt_ok {x : Cx} (hx : HR x) {t : TypeId} {a c : V} {v u : Value} {h' : Heap} (h : vstoreAt x.P x.h t a c = some h') (ha : VR x a v) (hc : VR x c u) :
    Does x (do Instr.storeAt t v u; pure .skip) .u h' := by
  unfold vstoreAt at h
  split at h
  · rename_i id gen off
    split at h
    · rename_i b vs n hb hvs hn
      obtain ⟨h1, h2, h3, h4⟩ := blkOf_spec hb
      split at h
      · rename_i hcond
        obtain ⟨c1, c3, c4⟩ := hcond
        split at h
        case h_2 => cases h
        rename_i d hd
        simp only [Option.some.injEq] at h; subst h
        obtain ⟨hd1, c2⟩ := vlayD_toV hd
        have hlv := cur_lv h1 h2 h3 ha
        rw [cur_ref h4 ha]
        exact store_at hx h1 hlv (blkOf_mpq hb) hvs hn c1 c3 c4 hd1 c2 hc fun _ l _ => vlayD_good (l := l) hd
      · cases h
    · cases h
  · rename_i id gen row sz fld
    split at h
    · rename_i b vs n hb hvs hn
      obtain ⟨h1, h2, h3, h4⟩ := blkOf_spec hb
      split at h
      · rename_i hcond
        obtain ⟨c1, c3, c4⟩ := hcond
        split at h
        case h_2 => cases h
        rename_i d hd
        simp only [Option.some.injEq] at h; subst h
        obtain ⟨hd1, c2⟩ := vlayR_toV hd
        have hlv := cur_lvr h1 h2 h3 ha
        rw [cur_rrf h4 ha]
        exact store_at hx h1 hlv (blkOf_mpq hb) hvs hn c1 c3 c4 hd1 c2 hc fun hcs l hg => vlayR_good hd hcs hg
      · cases h
    · cases h
  · cases h
end Go.Proofs.YtkmkhcmfpbffjaaGreat.VI

namespace Go.Proofs.YtkmkhcmfpbffjaaGreat.VI
set_option linter.unusedVariables false
set_option linter.unusedSimpArgs false
def zrep (zs : List V) (n : Nat) : List V := (List.range n).map fun j => zs.getD (j % zs.length) .u
theorem zrep_ok {x : Cx} {zs : List V} {z : Value} (h : VRs x zs z.cells.toList) (hz : 0 < zs.length) (n : Nat) : VRs x (zrep zs n) ((Array.range n).map (z.cells[· % z.cells.size]!)).toList := by
  have hl := h.length
  have : ((Array.range n).map (z.cells[· % z.cells.size]!)).toList = (List.range n).map (z.cells[· % z.cells.size]!) := by simp
  rw [this]
  unfold zrep
  apply VRs.map
  intro j
  have hj : j % zs.length < zs.length := Nat.mod_lt _ hz
  obtain ⟨v, hv, hr⟩ := h.get (j % zs.length) (zs[j % zs.length]) (List.getElem?_eq_getElem hj)
  rw [List.getD_eq_getElem?_getD, List.getElem?_eq_getElem hj, Option.getD_some]
  have hs : z.cells.size = zs.length := by rw [← hl]; simp
  rw [hs]
  rw [Array.getElem?_toList] at hv
  rw [Array.getElem!_eq_getD, Array.getD_eq_getD_getElem?, hv]
  exact hr
def vbuildSlice (P : Program) (h : Heap) (id : Nat) (t : TypeId) (len : Nat) (ps : List (Nat × V)) : Option (V × Heap) :=
  match P.underlying t with
  | some (.slice elem) => match szOf P elem, zcells P elem with
    | some (s + 1), some zs => if zs.length = s + 1 ∧ len * (s + 1) ≤ 16777216 ∧ 0 < len ∧ blank h id = true then (match vfill (fun i => some (i * (s + 1), s + 1)) (zrep zs (len * (s + 1))) ps with
      | some cs => if cs.all okc = true then some (.own id 1 0 len (s + 1), newb h id elem (mkD P elem cs)) else none
      | none => none) else none
    | _, _ => none
  | _ => none
theorem vfill_length {place : Nat → Option (Nat × Nat)} : ∀ (ps : List (Nat × V)) (cells r : List V), vfill place cells ps = some r → r.length = cells.length
  | [], _, _, h => by simp [vfill] at h; rw [h]
  | (i, v) :: ps, cells, r, h => by
    simp only [vfill] at h
    split at h
    · cases h
    · split at h
      · cases h
      · split at h
        · rw [vfill_length ps _ _ h, lay_length]
        · cases h
theorem vbuildSlice_ok {x : Cx} (hx : HR x) {id : Nat} {t : TypeId} {len : Nat} {ps : List (Nat × V)} {qs : Array (Nat × Value)} {r : V} {h' : Heap} (h : vbuildSlice x.P x.h id t len ps = some (r, h'))
    (hq : ps.length = qs.toList.length ∧ ∀ (j : Nat) p q, ps[j]? = some p → qs.toList[j]? = some q → p.1 = q.1 ∧ VR x p.2 q.2) : Does x (do pure (.value (← Instr.buildSlice t len qs))) r h' := by
  unfold vbuildSlice at h
  split at h
  · rename_i elem hu
    split at h
    · rename_i s zs hs hz
      split at h
      · rename_i hc
        obtain ⟨c1, c2, c3, c4⟩ := hc
        split at h
        · rename_i cs hf
          split at h
          case isFalse => cases h
          rename_i hok
          simp only [Option.some.injEq, Prod.mk.injEq] at h
          obtain ⟨rfl, rfl⟩ := h
          obtain ⟨z, hz1, hz2, _⟩ := zcells_ok hz
          obtain ⟨m, h1, h2⟩ := vfill_ok ps qs.toList _ _ cs hf (zrep_ok hz2 (by omega) _) hq
          have hm := h2.length
          have hl := vfill_length _ _ _ hf
          have hlen : m.length = len * (s + 1) := by rw [hm, hl]; simp [zrep]
          refine ⟨_, x.new id 1 elem (mkD x.P elem cs) m, ?_, new_to0 hx (blank_lw c4) elem (by rw [mkD_toV, List.take_of_length_le (by omega)]; exact h2) (all_one h2 hok) (mkD_good _ _ _), rfl, rfl, .inl ⟨_, rfl, new_own (blank_lw c4) elem _ m (0, 0) len len (s + 1) (Nat.le_refl _) hlen.symm ⟨by omega, .inr (by rw [mkD_toV]; omega)⟩⟩⟩
          have hne : ¬ (len * (s + 1) > 2 ^ 24) := by omega
          have hn0 : ¬ (len * (s + 1) = 0) := by
            have : 0 < len * (s + 1) := Nat.mul_pos c3 (by omega)
            omega
          simp only [Array.toArray_toList] at h1
          simp only [Instr.buildSlice, Sem.run_bind, run_underlying hu, Result.andThen_ok, run_szOf hs, if_neg hne, if_neg hn0, hz1, Sem.run_pure, h1, run_newRow, Cx.new]
        · cases h
      · cases h
    · cases h
  · cases h
end Go.Proofs.YtkmkhcmfpbffjaaGreat.VI

namespace Go.Proofs.YtkmkhcmfpbffjaaGreat.VI
set_option linter.unusedVariables false
set_option linter.unusedSimpArgs false
def zD (zs : List V) (n : Nat) : D := match zs with
  | [.i k a] => .ints k (List.replicate n a)
  | zs => .recs n zs.length fun _ => zs
theorem fitted_const (zs : List V) : ∀ n, fitted zs.length (fun _ => zs) n = (List.replicate n zs).flatten
  | 0 => rfl
  | n + 1 => by rw [fitted, fitted_const zs n, fit_id rfl, List.replicate_succ', List.flatten_append]; simp
theorem zD_toV (zs : List V) (n : Nat) : (zD zs n).toV = (List.replicate n zs).flatten := by
  unfold zD
  split
  · simp only [D.toV]
    induction n with
    | zero => rfl
    | succ n ih => simp [List.replicate_succ, ih]
  · exact fitted_const zs n
theorem flatten_get {α : Type} {zs : List α} {n j : Nat} (h : j < n * zs.length) : ((List.replicate n zs).flatten)[j]? = zs[j % zs.length]? := by
  induction n generalizing j with
  | zero => simp at h
  | succ n ih =>
    rw [List.replicate_succ, List.flatten_cons]
    by_cases hj : j < zs.length
    · rw [List.getElem?_append_left hj, Nat.mod_eq_of_lt hj]
    · rw [List.getElem?_append_right (by omega), ih (by rw [Nat.succ_mul] at h; omega)]
      congr 1
      exact (Nat.mod_eq_sub_mod (by omega)).symm
theorem zD_ok {x : Cx} {zs : List V} {z : Value} (h : VRs x zs z.cells.toList) (hz : 0 < zs.length) (n : Nat) : VRs x (zD zs n).toV ((Array.range (n * zs.length)).map (z.cells[· % z.cells.size]!)).toList := by
  have e : (zD zs n).toV = zrep zs (n * zs.length) := by
    rw [zD_toV]
    apply List.ext_getElem?
    intro j
    unfold zrep
    by_cases hj : j < n * zs.length
    · have hm : j % zs.length < zs.length := Nat.mod_lt _ hz
      rw [flatten_get hj, List.getElem?_map, List.getElem?_range hj]
      simp [List.getD, List.getElem?_eq_getElem hm]
    · rw [List.getElem?_eq_none (by simp; omega), List.getElem?_eq_none (by simp; omega)]
  rw [e]
  exact zrep_ok h hz _
theorem zD_good {x : Cx} {zs : List V} {z : Value} (h : VRs x.bare zs z.cells.toList) (hz : 0 < zs.length) (n : Nat) {l : List Value} (hl : l = ((Array.range (n * zs.length)).map (z.cells[· % z.cells.size]!)).toList) : good x (zD zs n) l := by
  subst hl
  have := zD_ok h hz n
  unfold zD at this ⊢
  split at this
  · trivial
  · exact ⟨fun _ _ => rfl, this⟩
def bytesOf (P : Program) (t : TypeId) : Option Nat := (P.info? t).map (·.bytes)
theorem info_of {P : Program} {t n b : Nat} (h : szOf P t = some n) (hb : bytesOf P t = some b) : ∃ i, P.info? t = some i ∧ i.size = n ∧ i.bytes = b := by
  unfold szOf at h
  unfold bytesOf at hb
  cases hi : P.info? t with
  | none => rw [hi] at h; cases h
  | some i => rw [hi] at h hb; exact ⟨i, rfl, by simpa using h, by simpa using hb⟩
def vmake (P : Program) (h : Heap) (id : Nat) (t : TypeId) (c : V) : Option (V × Heap) :=
  match c with
  | .i _ n => match P.underlying t with
    | some (.slice elem) => match szOf P elem, bytesOf P elem, zcells P elem with
      | some (s + 1), some b, some zs => if zs.length = s + 1 ∧ b ≤ 65536 ∧ blank h id = true then (if 0 ≤ n ∧ n ≤ 1073741824 then some (.own id 1 0 n.toNat (s + 1), newb h id elem (zD zs n.toNat)) else none) else none
      | _, _, _ => none
    | _ => none
  | _ => none
theorem wrap64_id {n : Int} (h : 0 ≤ n) (h' : n ≤ 1073741824) : IntKind.i64.wrap n = n := by
  exact IntWalk.i64_in _ (by omega)
theorem vmake_ok {x : Cx} (hx : HR x) {id : Nat} {t : TypeId} {c r : V} {v : Value} {h' : Heap} (h : vmake x.P x.h id t c = some (r, h')) (hv : VR x c v) : Does x (do pure (.value (← Instr.makeSlice t v v))) r h' := by
  unfold vmake at h
  split at h
  · rename_i k n
    simp only [VR] at hv; subst hv
    split at h
    · rename_i elem hu
      split at h
      · rename_i s b zs hs hb hz
        split at h
        · rename_i hc
          obtain ⟨c1, c2, c3⟩ := hc
          split at h
          · rename_i hn
            simp only [Option.some.injEq, Prod.mk.injEq] at h
            obtain ⟨rfl, rfl⟩ := h
            obtain ⟨z, hz1, hz2, hz3⟩ := zcells_ok hz
            obtain ⟨i, hi, hi1, hi2⟩ := info_of hs hb
            have hw := wrap64_id hn.1 hn.2
            have hl := hz2.length
            let l := ((Array.range (n.toNat * (s + 1))).map (z.cells[· % z.cells.size]!)).toList
            have hll : l.length = n.toNat * (s + 1) := by simp [l]
            have hl1 : ∀ v ∈ l, one v = true := by
              intro v hv
              simp only [l, Array.toList_map, Array.toList_range, List.mem_map] at hv
              obtain ⟨j, _, rfl⟩ := hv
              have hj : j % z.cells.size < z.cells.size := Nat.mod_lt _ (by rw [← Array.length_toList, hl]; omega)
              apply hz3
              rw [getElem!_pos z.cells _ hj]
              exact Array.getElem_mem_toList hj
            have hzd := zD_ok hz2 (by omega) n.toNat
            rw [c1] at hzd
            have hdl : (zD zs n.toNat).toV.length = n.toNat * (s + 1) := by have := hzd.length; simpa [l] using this.symm
            refine ⟨.value (.slice (some ⟨x.w.heap.size, 0, none⟩) n.toNat n.toNat), x.new id 1 elem (zD zs n.toNat) l, ?_, new_to0 hx (blank_lw c3) elem (by rw [List.take_of_length_le (by rw [hdl, hll]; exact Nat.le_refl _)]; exact hzd) hl1 (by
              rw [List.take_of_length_le (by rw [hdl, hll]; exact Nat.le_refl _)]
              obtain ⟨z', q1, q2, _⟩ := zcells_ok (x := x.bare) hz
              have : z' = z := by
                have e : (zeroValue elem).run x.P x.w = .ok z' x.w := q1
                rw [hz1] at e; injection e with e; exact e.symm
              subst this
              exact zD_good q2 (by omega) _ (by rw [c1])), rfl, rfl, .inl ⟨_, rfl, new_own (blank_lw c3) elem _ l (0, 0) _ _ _ (Nat.le_refl _) (by rw [hll]) ⟨by omega, .inr (by rw [hdl]; exact Nat.le_refl _)⟩⟩⟩
            have ht : ¬ (n < 0 ∨ (b : Int) * n > 2 ^ 48) := by
              have h1 : (b : Int) * n ≤ 65536 * 1073741824 := Int.mul_le_mul (by omega) hn.2 hn.1 (by omega)
              omega
            have h2 : (n < 0 || decide ((b : Int) * n > 2 ^ 48)) = false := by simpa using ht
            have hroom : ¬ (n.toNat * b > roomBytes) := by
              have : n.toNat * b ≤ 1073741824 * 65536 := Nat.mul_le_mul (by omega) c2
              unfold roomBytes; omega
            have hb' : (do pure (← typeInfo elem).bytes : Sem Nat).run x.P x.w = .ok b x.w := by simp [typeInfo, hi, hi2]
            have e0 : ∀ w : World, (typeInfo elem).run x.P w = .ok i w := fun w => by simp [typeInfo, hi]
            simp only [Instr.makeSlice, Sem.run_bind, run_underlying hu, Result.andThen_ok, asInt, asIntOf, Sem.run_pure, e0, hi2, hw]
            rw [if_neg (by simp only [gt_iff_lt, Bool.or_eq_true, decide_eq_true_eq]; omega)]
            simp only [Sem.run_bind, askRoom, if_neg hroom, Sem.run_pure, Result.andThen_ok, run_szOf hs]
            by_cases h0 : n.toNat * (s + 1) = 0
            · have hn0 : n.toNat = 0 := by
                rcases Nat.mul_eq_zero.1 h0 with h | h
                · exact h
                · omega
              simp only [h0, if_true, Sem.run_pure, Result.andThen_ok, Cx.new, l]
              simp [run_newRow]
              congr 2
              apply Array.ext'; simp
            · simp only [if_neg h0, Sem.run_bind, hz1, Result.andThen_ok, Sem.run_pure, run_newRow, Cx.new, l]
          · cases h
        · cases h
      · cases h
    · cases h
  · cases h
end Go.Proofs.YtkmkhcmfpbffjaaGreat.VI

namespace Go.Proofs.YtkmkhcmfpbffjaaGreat.VI
set_option linter.unusedVariables false
set_option linter.unusedSimpArgs false
theorem VRs.ints {x : Cx} {k : IntKind} : ∀ {xs : List Int} {l : List Value}, VRs x (xs.map (V.i k)) l → l = xs.map (Value.int k)
  | [], _, h => h
  | e :: xs, _, h => by
    obtain ⟨v, vs, rfl, h1, h2⟩ := h
    have h1 : v = .int k e := h1
    rw [h1, VRs.ints h2]; rfl
theorem VRs.of_ints (x : Cx) (k : IntKind) : ∀ (xs : List Int), VRs x (xs.map (V.i k)) (xs.map (Value.int k))
  | [] => rfl
  | e :: xs => ⟨_, _, rfl, rfl, VRs.of_ints x k xs⟩
def shift (s off : Nat) (g : Nat → List V) : Nat → List V := match off with
  | 0 => g
  | o + 1 => fun j => g ((o + 1) / s + j)
theorem shift_at (s off : Nat) (g : Nat → List V) (j : Nat) : shift s off g j = g (off / s + j) := by
  cases off with
  | zero => simp [shift]
  | succ o => rfl
def vsrc (h : Heap) (sz : Nat) : V → Option (Nat × D)
  | .nils => some (0, .list [])
  | .si n k xs => if sz = 1 then some (n, .ints k (xs.take n)) else none
  | .sl n s cs => if s = sz then some (n, .list (cs.take (n * s))) else none
  | .sr n s g => if s = sz then some (n, .recs n s g) else none
  | .own id gen off n s => if s = sz then (match blkOf h id gen with
    | some b => match b.d with
      | .ints k xs => if s = 1 then some (n, .ints k ((xs.drop off).take n)) else none
      | .list cs => some (n, .list ((cs.drop off).take (n * s)))
      | .recs _ s' g => if s' = s ∧ off % s = 0 then some (n, .recs n s (shift s off g)) else none
      | .mix _ _ _ => none
      | .bm _ _ => none
    | none => none) else none
  | .s a => if sz = 1 then some (a.size, .ints .u8 (bys a)) else none
  | .st xs => if sz = 1 then some (xs.length, .ints .u8 xs) else none
  | _ => none
def Rd (x : Cx) (sz m : Nat) (v : Value) (us : List Value) : Prop := (∀ w, (Builtin.lenOf v).run x.P w = .ok m w) ∧ ∀ w : World, w.heap = x.w.heap → (Builtin.firstCells sz m v).run x.P w = .ok us.toArray w
theorem rd_slice {x : Cx} {sz m cap bk off : Nat} {us : List Value} (hl : us.length = m * sz) (h : ∀ j u, us[j]? = some u → x.w.cell? ⟨bk, off + j, none⟩ = some u) : Rd x sz m (.slice (some ⟨bk, off, none⟩) m cap) us := by
  refine ⟨fun w => rfl, fun w hw => ?_⟩
  have := run_loadCells_list (P := x.P) w ⟨bk, off, none⟩ us (fun j v hj => by
    rw [addr_add]
    have := h j v hj
    simpa [World.cell?, hw] using this)
  simp only [Builtin.firstCells]
  rw [← hl, this]
theorem rd_empty {x : Cx} {sz cap : Nat} {a : Option Addr} : Rd x sz 0 (.slice a 0 cap) [] := by
  refine ⟨fun w => rfl, fun w hw => ?_⟩
  cases a <;> simp [Builtin.firstCells, loadCells, loadCellsFrom]
theorem rows_cells {x : Cx} {sz bk off : Nat} : ∀ {n : Nat} {g : Nat → List V}, (∀ j, j < n → (g j).length = sz ∧ VRc x (g j) bk (off + j * sz)) →
    ∃ us : List Value, VRs x (fitted sz g n) us ∧ us.length = n * sz ∧ (∀ v ∈ us, one v = true) ∧ ∀ j u, us[j]? = some u → x.w.cell? ⟨bk, off + j, none⟩ = some u
  | 0, _, _ => ⟨[], rfl, by simp, (fun v hv => by cases hv), fun j u h => by simp at h⟩
  | n + 1, g, h => by
    obtain ⟨us, h1, h2, h3, h4⟩ := rows_cells (n := n) (g := g) fun j hj => h j (by omega)
    obtain ⟨k1, k2⟩ := h n (by omega)
    have key : ∀ (cs : List V) (o : Nat), VRc x cs bk o → ∃ vs : List Value, VRs x cs vs ∧ (∀ v ∈ vs, one v = true) ∧ ∀ j u, vs[j]? = some u → x.w.cell? ⟨bk, o + j, none⟩ = some u := by
      intro cs
      induction cs with
      | nil => intro o _; exact ⟨[], rfl, (fun v hv => by cases hv), fun j u h => by simp at h⟩
      | cons c cs ih =>
        intro o hc
        obtain ⟨⟨v, p1, p2, p3⟩, p4⟩ := hc
        obtain ⟨vs, q1, q2, q3⟩ := ih (o + 1) p4
        refine ⟨v :: vs, ⟨v, vs, rfl, p3, q1⟩, fun u hu => ?_, fun j u hj => ?_⟩
        · rcases List.mem_cons.1 hu with e | e
          · rw [e]; exact p2
          · exact q2 u e
        · cases j with
          | zero => simp at hj; subst hj; exact p1
          | succ j =>
            have := q3 j u (by simpa using hj)
            rwa [show o + 1 + j = o + (j + 1) by omega] at this
    obtain ⟨vs, q1, q2, q3⟩ := key (g n) _ k2
    have hvl := q1.length
    refine ⟨us ++ vs, ?_, by rw [List.length_append, h2, hvl, k1, Nat.succ_mul], fun v hv => ?_, fun j u hj => ?_⟩
    · simp only [fitted]
      rw [fit_id k1]
      exact h1.append q1
    · rcases List.mem_append.1 hv with e | e
      · exact h3 v e
      · exact q2 v e
    · rw [List.getElem?_append] at hj
      split at hj
      · exact h4 j u hj
      · rename_i hlt
        have := q3 _ u hj
        rwa [show off + n * sz + (j - us.length) = off + j by omega] at this
theorem list_cells {x : Cx} {bk off : Nat} {cs : List V} (h : VRc x cs bk off) : ∃ us : List Value, VRs x cs us ∧ us.length = cs.length ∧ (∀ v ∈ us, one v = true) ∧ ∀ j u, us[j]? = some u → x.w.cell? ⟨bk, off + j, none⟩ = some u := by
  obtain ⟨us, h1, h2, h3, h4⟩ := rows_cells (x := x) (sz := cs.length) (bk := bk) (off := off) (n := 1) (g := fun _ => cs) (fun j hj => by
    have : j = 0 := by omega
    subst this
    simp [h])
  simp only [fitted, List.nil_append] at h1
  rw [fit_id rfl] at h1
  exact ⟨us, h1, by simpa using h2, h3, h4⟩
theorem unbare_VRs {x : Cx} {cs : List V} {l : List Value} (h : VRs x.bare cs l) : VRs x cs l := h.mono (Mono.unbare x)
theorem own_cells {x : Cx} (hx : HR x) {id off m : Nat} {b : Blk} (hb : x.h[id]? = some b) (hg : x.lv id b) (hmq : b.d.mpq = false) (hm : off + m ≤ b.cs.length) : ∃ us : List Value, VRs x ((b.cs.drop off).take m) us ∧ us.length = m ∧ (∀ v ∈ us, one v = true) ∧ (∀ j u, us[j]? = some u → x.w.cell? ⟨x.ρ id, off + j, none⟩ = some u) ∧ ∀ n s g, b.d = .recs n s g → (∀ j, j < n → (g j).length = s) ∧ VRs x.bare ((b.cs.drop off).take m) us := by
  obtain ⟨cs, lo, hi, h1, _, h3, h4, h5⟩ := hx.blk id b hb hg hmq
  have hl := h3.length
  rw [List.length_take] at hl
  have e : (((cs.toList.take b.cs.length).drop off).take m) = (cs.toList.drop off).take m := by
    rw [List.drop_take, List.take_take]; congr 1; omega
  refine ⟨(cs.toList.drop off).take m, by rw [← e]; exact (h3.drop off).take m, by rw [List.length_take, List.length_drop]; omega, fun v hv => h4 v (List.mem_of_mem_drop (List.mem_of_mem_take hv)), fun j u hj => ?_, fun n s g hd => ?_⟩
  · rw [List.getElem?_take] at hj
    split at hj
    · rw [List.getElem?_drop] at hj
      simp only [World.cell?, h1]
      simpa using hj
    · cases hj
  · rw [hd] at h5
    refine ⟨h5.1, ?_⟩
    have := (h5.2.drop off).take m
    rw [e] at this
    simpa [Blk.cs, hd, D.toV] using this
theorem vsrc_ok {x : Cx} (hx : HR x) {sz m : Nat} {c : V} {d : D} {v : Value} (h : vsrc x.h sz c = some (m, d)) (hz : 0 < sz) (hv : VR x c v) : ∃ us : List Value, VRs x d.toV us ∧ us.length = m * sz ∧ (∀ u ∈ us, one u = true) ∧ Rd x sz m v us ∧ good x d us := by
  have nil : ∀ a cap (d : D), v = .slice a 0 cap → d.toV = [] → m = 0 → good x d [] → ∃ us : List Value, VRs x d.toV us ∧ us.length = m * sz ∧ (∀ u ∈ us, one u = true) ∧ Rd x sz m v us ∧ good x d us := by
    rintro a cap d rfl hd rfl hgd
    exact ⟨[], by rw [hd]; rfl, by simp, (fun v hv => by cases hv), rd_empty, hgd⟩
  have strs : ∀ b : ByteArray, v = .string b → sz = 1 → m = b.size → d = .ints .u8 (bys b) → ∃ us : List Value, VRs x d.toV us ∧ us.length = m * sz ∧ (∀ u ∈ us, one u = true) ∧ Rd x sz m v us ∧ good x d us := by
    rintro b rfl rfl rfl rfl
    refine ⟨(bys b).map (.int .u8), VRs.of_ints x .u8 _, by simp only [bys, List.length_map, Array.length_toList, Nat.mul_one]; rfl, (fun v hv => ?_), ⟨(fun w => rfl), (fun w hw => ?_)⟩, trivial⟩
    · obtain ⟨e, _, rfl⟩ := List.mem_map.1 hv; rfl
    · have e : b.extract 0 b.size = b := by
        have := ByteArray.extract_zero_size (b := b)
        exact this
      simp only [Builtin.firstCells, e, Sem.run_pure, bys]
      congr 1
      apply Array.ext'
      simp
  cases c with
  | nils =>
    simp only [vsrc, Option.some.injEq, Prod.mk.injEq] at h
    obtain ⟨rfl, rfl⟩ := h
    obtain ⟨a, rfl⟩ := hv
    exact nil a 0 _ rfl rfl rfl trivial
  | si n k xs =>
    simp only [vsrc] at h
    split at h
    · rename_i hs; subst hs
      simp only [Option.some.injEq, Prod.mk.injEq] at h
      obtain ⟨rfl, rfl⟩ := h
      obtain ⟨a, cap, rfl, _, hr⟩ := hv
      rcases hr with rfl | ⟨bk, off, rfl, _, hn, hs⟩
      · exact nil a cap _ rfl (by simp [D.toV]) rfl trivial
      · refine ⟨(xs.take n).map (.int k), VRs.of_ints x k _, by simp; omega, (fun v hv => ?_), rd_slice (by simp; omega) fun j u hj => ?_, trivial⟩
        · obtain ⟨e, _, rfl⟩ := List.mem_map.1 hv; rfl
        · rw [List.getElem?_map, List.getElem?_take] at hj
          split at hj
          · rename_i hlt
            cases he : xs[j]? with
            | none => rw [he] at hj; cases hj
            | some e => rw [he] at hj; simp only [Option.map_some, Option.some.injEq] at hj; subst hj; exact hs j e hlt he
          · cases hj
    · cases h
  | sl n s cs =>
    simp only [vsrc] at h
    split at h
    · rename_i hs; subst hs
      simp only [Option.some.injEq, Prod.mk.injEq] at h
      obtain ⟨rfl, rfl⟩ := h
      obtain ⟨a, cap, rfl, _, _, hr⟩ := hv
      rcases hr with rfl | ⟨bk, off, rfl, _, hn, hs⟩
      · exact nil a cap _ rfl (by simp [D.toV]) rfl trivial
      · obtain ⟨us, h1, h2, h3, h4⟩ := list_cells (hs.take (n * s))
        rw [List.length_take, Nat.min_eq_left hn] at h2
        exact ⟨us, unbare_VRs h1, h2, h3, rd_slice h2 h4, trivial⟩
    · cases h
  | sr n s g =>
    simp only [vsrc] at h
    split at h
    · rename_i hs; subst hs
      simp only [Option.some.injEq, Prod.mk.injEq] at h
      obtain ⟨rfl, rfl⟩ := h
      obtain ⟨a, cap, rfl, _, _, hr⟩ := hv
      rcases hr with rfl | ⟨bk, off, rfl, _, hs⟩
      · exact nil a cap _ rfl rfl rfl ⟨fun j hj => by omega, rfl⟩
      · obtain ⟨us, h1, h2, h3, h4⟩ := rows_cells hs
        exact ⟨us, unbare_VRs h1, h2, h3, rd_slice h2 h4, fun j hj => (hs j hj).1, h1⟩
    · cases h
  | own id gen off n s =>
    simp only [vsrc] at h
    split at h
    case isFalse => cases h
    rename_i hs; subst hs
    split at h
    case h_2 => cases h
    rename_i b hb
    obtain ⟨h1, h2, h3, h4⟩ := blkOf_spec hb
    obtain ⟨_, bk, g1, _, g3⟩ := hv
    rw [h1] at g1; injection g1 with g1; subst g1
    obtain ⟨a, cap, rfl, q1, q2, q3⟩ := g3 h2.symm h3
    have real : n ≠ 0 → ∀ ds, m = n → d.toV = ds → ds = (b.cs.drop off).take (n * s) → (∀ us, (∀ n s g, b.d = .recs n s g → (∀ j, j < n → (g j).length = s) ∧ VRs x.bare d.toV us) → good x d us) → ∃ us : List Value, VRs x d.toV us ∧ us.length = m * s ∧ (∀ u ∈ us, one u = true) ∧ Rd x s m (.slice a n cap) us ∧ good x d us := by
      rintro hn ds rfl rfl hd hgd
      rcases q3 with ⟨p1, _⟩ | ⟨hp, o, rfl, hlen, hr⟩
      · exact absurd p1 hn
      · rcases hlen with p1 | hlen
        · exact absurd p1 hn
        · rcases hr with ⟨p1, _⟩ | ⟨rfl, _⟩
          · exact absurd p1 hn
          · obtain ⟨us, k1, k2, k3, k4, k5⟩ := own_cells hx h1 ⟨by omega, hp⟩ (blkOf_mpq hb) hlen
            exact ⟨us, by rw [hd]; exact k1, k2, k3, rd_slice k2 k4, hgd us (by rw [hd]; exact k5)⟩
    split at h
    · rename_i k xs hd
      split at h
      · rename_i hs; subst hs
        simp only [Option.some.injEq, Prod.mk.injEq] at h
        obtain ⟨rfl, rfl⟩ := h
        by_cases hn : n = 0
        · subst hn; exact nil a cap _ rfl (by simp [D.toV]) rfl trivial
        · exact real hn _ rfl rfl (by simp [D.toV, Blk.cs, hd, List.map_drop]) fun _ _ => trivial
      · cases h
    · rename_i cs hd
      simp only [Option.some.injEq, Prod.mk.injEq] at h
      obtain ⟨rfl, rfl⟩ := h
      by_cases hn : n = 0
      · subst hn; exact nil a cap _ rfl (by simp [D.toV]) rfl trivial
      · exact real hn _ rfl rfl (by simp [D.toV, Blk.cs, hd]) fun _ _ => trivial
    · rename_i n' s' g hd
      split at h
      · rename_i hs
        obtain ⟨rfl, hmod⟩ := hs
        simp only [Option.some.injEq, Prod.mk.injEq] at h
        obtain ⟨rfl, rfl⟩ := h
        by_cases hn : n = 0
        · subst hn; exact nil a cap _ rfl rfl rfl ⟨fun j hj => by omega, rfl⟩
        · have hlen : off + n * s' ≤ n' * s' := by
            rcases q3 with ⟨p1, _⟩ | ⟨hp, o, rfl, hlen, hr⟩
            · exact absurd p1 hn
            · rcases hlen with p1 | hlen
              · exact absurd p1 hn
              · simpa [Blk.cs, hd, D.toV, fitted_length] using hlen
          have hrow : ∀ j, j < n → off / s' + j < n' := fun j hj => by
            have e : off / s' * s' = off := Nat.div_mul_cancel (Nat.dvd_of_mod_eq_zero hmod)
            have : (off / s' + j + 1) * s' ≤ n' * s' := by
              rw [Nat.add_assoc, Nat.add_mul, e]
              have : (j + 1) * s' ≤ n * s' := Nat.mul_le_mul_right _ hj
              omega
            exact Nat.le_of_mul_le_mul_right this hz
          refine real hn _ rfl rfl ?_ fun us k => ⟨fun j hj => by rw [shift_at]; exact (k n' s' g hd).1 _ (hrow j hj), (k n' s' g hd).2⟩
          have e : off / s' * s' = off := Nat.div_mul_cancel (Nat.dvd_of_mod_eq_zero hmod)
          simp only [D.toV, Blk.cs, hd]
          apply List.ext_getElem?
          intro i
          rw [List.getElem?_take]
          by_cases hi : i < n * s'
          · rw [if_pos hi, List.getElem?_drop]
            have i1 : i / s' < n := Nat.div_lt_of_lt_mul (by rw [Nat.mul_comm]; exact hi)
            have i2 : i % s' < s' := Nat.mod_lt _ hz
            have i3 : i = i / s' * s' + i % s' := by rw [Nat.mul_comm]; exact (Nat.div_add_mod i s').symm
            have l1 := fitted_get (g := shift s' off g) i2 i1
            rw [← i3] at l1
            rw [l1, shift_at]
            have i4 : off + i = (off / s' + i / s') * s' + i % s' := by rw [Nat.add_mul]; omega
            rw [i4, fitted_get i2 (by
              have : (off / s' + i / s' + 1) * s' ≤ n' * s' := by
                rw [Nat.add_assoc, Nat.add_mul, e]
                have : (i / s' + 1) * s' ≤ n * s' := Nat.mul_le_mul_right _ i1
                omega
              exact Nat.lt_of_mul_lt_mul_right (a := s') (by rw [Nat.succ_mul] at this; omega))]
          · rw [if_neg hi, List.getElem?_eq_none (by rw [fitted_length]; omega)]
      · cases h
    · cases h
    · cases h
  | s a =>
    simp only [vsrc] at h
    split at h
    · rename_i hs
      simp only [Option.some.injEq, Prod.mk.injEq] at h
      obtain ⟨rfl, rfl⟩ := h
      exact strs a hv hs rfl rfl
    · cases h
  | st xs =>
    simp only [vsrc] at h
    split at h
    · rename_i hs
      simp only [Option.some.injEq, Prod.mk.injEq] at h
      obtain ⟨rfl, rfl⟩ := h
      obtain ⟨b, rfl, hb⟩ := hv
      exact strs b rfl hs (by rw [← hb]; simp only [List.length_map, Array.length_toList]; rfl) (by rw [← hb]; rfl)
    · cases h
  | _ => simp [vsrc] at h
end Go.Proofs.YtkmkhcmfpbffjaaGreat.VI

namespace Go.Proofs.YtkmkhcmfpbffjaaGreat.VI
set_option linter.unusedVariables false
set_option linter.unusedSimpArgs false
def isIntD : TypeDesc → Bool
  | .int _ => true
  | _ => false
section
variable {P : Program} {w : World} {st xt ty elem : TypeId} {d : TypeDesc} {i : TypeInfo} {a : Option Addr} {n cap m sz : Nat} {u : Value} {us : List Value} {z : Value}
theorem app_room (hu : P.underlying st = some (.slice elem)) (hx : P.underlying xt = some d) (hd : isIntD d = false) (hi : P.info? elem = some i) (hs : i.size = sz)
    (hm : ∀ w, (Builtin.lenOf u).run P w = .ok m w) (hf : (Builtin.firstCells sz m u).run P w = .ok us.toArray w) (hr : n + m ≤ cap) :
    (Builtin.append_ #[st, xt] ty #[.slice a n cap, u]).run P w = (match a with | some a => (storeCells (a.add (n * sz)) us).run P w | none => .ok () w).andThen fun _ w' => .ok (.slice a (n + m) cap) w' := by
  subst hs
  cases d with
  | int k => cases hd
  | _ =>
    simp only [Builtin.append_, List.getElem?_toArray, List.getElem?_cons_zero, List.getElem?_cons_succ, Sem.run_bind, run_underlying hu, run_underlying hx, Result.andThen_ok, sizeOf, typeInfo, run_program, hi, Sem.run_pure, Bool.false_eq_true, if_false, hm, hr, if_true, Bool.not_false, hf]
    cases a with
    | none => rfl
    | some a => simp
theorem app_grow (hu : P.underlying st = some (.slice elem)) (hx : P.underlying xt = some d) (hd : isIntD d = false) (hi : P.info? elem = some i) (hs : i.size = sz) (hz : i.zero = some z)
    (hm : ∀ w, (Builtin.lenOf u).run P w = .ok m w) (hf : ∀ w' : World, w'.heap = w.heap → (Builtin.firstCells sz m u).run P w' = .ok us.toArray w') (hr : ¬ n + m ≤ cap) (hnm : n + m ≤ 1073741824) (hby : i.bytes ≤ 65536) (h0 : 0 < i.bytes)
    {old : List Value} (ho : ∀ w' : World, w'.heap = w.heap → (Builtin.firstCells sz n (.slice a n cap)).run P w' = .ok old.toArray w') :
    ∃ c, n + m ≤ c ∧ (Builtin.append_ #[st, xt] ty #[.slice a n cap, u]).run P w = .ok (.slice (some ⟨w.heap.size, 0, none⟩) (n + m) c) ({ w with drawn := w.drawn + 1 }.alloc (.cells ((old ++ us).toArray ++ Builtin.zeroCells z.cells (c - (n + m))) elem)) := by
  subst hs
  have hnc : Builtin.nextslicecap (n + m) cap * i.bytes ≤ 2 ^ 48 := growslice_fits (by omega) (by
    have : (n + m) * i.bytes ≤ 1073741824 * 65536 := Nat.mul_le_mul hnm hby
    omega)
  refine ⟨Question.cut (.appendCap (n + m) cap elem) (w.tape w.drawn (.appendCap (n + m) cap elem)), by simp [Question.cut], ?_⟩
  have hmax : ¬ ((((n + m : Nat) : Int) > IntKind.i64.max) ∧ (false = true ∨ i.bytes = 0)) := by
    rintro ⟨_, h | h⟩
    · cases h
    · omega
  have hmax' : ¬ ((((n + m : Nat) : Int) > IntKind.i64.max) ∧ (False ∨ i.bytes = 0)) := by
    rintro ⟨_, h | h⟩
    · cases h
    · omega
  have hff : (Question.appendCap (n + m) cap elem).forced = false := rfl
  have hroom : ∀ (k : Nat) (w : World), (askRoom k).run P w = .ok () w := fun k w => by unfold askRoom mark; split <;> rfl
  cases d with
  | int k => cases hd
  | _ =>
  simp only [Builtin.append_, List.getElem?_toArray, List.getElem?_cons_zero, List.getElem?_cons_succ, Sem.run_bind, run_underlying hu, run_underlying hx, Result.andThen_ok, sizeOf, typeInfo, run_program, hi, Sem.run_pure, Bool.false_eq_true, if_false, hm, hr, hmax', Nat.not_lt.2 hnc, gt_iff_lt, choose, Sem.run, hff, if_false]
  generalize Question.cut (.appendCap (n + m) cap elem) (w.tape w.drawn (.appendCap (n + m) cap elem)) = c
  have ho' := ho w.drew rfl
  have hf' := hf w.drew rfl
  simp only [hroom, Result.andThen_ok, Bool.not_false, if_true, zeroValue, typeInfo, Sem.run_bind, run_program, hi, hz, Sem.run_pure, run_newRow]
  simp [ho', hf']
  congr 2
  apply Array.ext'; simp
theorem app_room_z {k : IntKind} {l : Int} (hu : P.underlying st = some (.slice elem)) {k' : IntKind} (hx : P.underlying xt = some (.int k')) (hi : P.info? elem = some i) (hs : i.size = sz) (hz : i.zero = some z) (hl : 0 ≤ l ∧ l ≤ 1073741824) (hby : i.bytes ≤ 65536) (hm : l.toNat = m)
    (hus : us.toArray = if m * sz = 0 then #[] else Builtin.zeroCells z.cells m) (hr : n + m ≤ cap) :
    (Builtin.append_ #[st, xt] ty #[.slice a n cap, .int k l]).run P w = (match a with | some a => (storeCells (a.add (n * sz)) us).run P w | none => .ok () w).andThen fun _ w' => .ok (.slice a (n + m) cap) w' := by
  subst hs
  subst hm
  have hw : IntKind.i64.wrap l = l := wrap64_id hl.1 hl.2
  have h1 : ¬ l < 0 := by omega
  have h2 : ¬ (2 ^ 48 < l * (i.bytes : Int)) := by
    have : l * (i.bytes : Int) ≤ 1073741824 * 65536 := Int.mul_le_mul hl.2 (by omega) (by omega) (by omega)
    omega
  have hus' : us = (if l.toNat * i.size = 0 then #[] else Builtin.zeroCells z.cells l.toNat : Array Value).toList := by rw [← hus]
  simp only [Builtin.append_, List.getElem?_toArray, List.getElem?_cons_zero, List.getElem?_cons_succ, Sem.run_bind, run_underlying hu, run_underlying hx, Result.andThen_ok, sizeOf, typeInfo, run_program, hi, Sem.run_pure, Bool.false_eq_true, if_false, if_true, Bool.not_true, asInt, asIntOf, hw, h1, h2, gt_iff_lt, hr, Int.toNat_natCast]
  by_cases h0 : l.toNat * i.size = 0
  · rw [if_pos h0] at hus'
    rw [if_pos h0]
    subst hus'
    cases a <;> simp
  · rw [if_neg h0] at hus'
    rw [if_neg h0]
    cases a <;> simp [zeroValue, typeInfo, run_program, hi, hz, hus']
theorem app_grow_z {k : IntKind} {l : Int} (hu : P.underlying st = some (.slice elem)) {k' : IntKind} (hx : P.underlying xt = some (.int k')) (hi : P.info? elem = some i) (hs : i.size = sz) (hz : i.zero = some z) (hl : 0 ≤ l ∧ l ≤ 1073741824) (hm : l.toNat = m)
    (hus : us.toArray = if m * sz = 0 then #[] else Builtin.zeroCells z.cells m) (hr : ¬ n + m ≤ cap) (hnm : n + m ≤ 1073741824) (hby : i.bytes ≤ 65536) (h0 : 0 < i.bytes)
    {old : List Value} (ho : ∀ w' : World, w'.heap = w.heap → (Builtin.firstCells sz n (.slice a n cap)).run P w' = .ok old.toArray w') :
    ∃ c, n + m ≤ c ∧ (Builtin.append_ #[st, xt] ty #[.slice a n cap, .int k l]).run P w = .ok (.slice (some ⟨w.heap.size, 0, none⟩) (n + m) c) ({ w with drawn := w.drawn + 1 }.alloc (.cells ((old ++ us).toArray ++ Builtin.zeroCells z.cells (c - (n + m))) elem)) := by
  subst hs
  subst hm
  have hw : IntKind.i64.wrap l = l := wrap64_id hl.1 hl.2
  have h1 : ¬ l < 0 := by omega
  have h2 : ¬ (2 ^ 48 < l * (i.bytes : Int)) := by
    have : l * (i.bytes : Int) ≤ 1073741824 * 65536 := Int.mul_le_mul hl.2 (by omega) (by omega) (by omega)
    omega
  have hus' : us = (if l.toNat * i.size = 0 then #[] else Builtin.zeroCells z.cells l.toNat : Array Value).toList := by rw [← hus]
  have hnc : Builtin.nextslicecap (n + l.toNat) cap * i.bytes ≤ 2 ^ 48 := growslice_fits (by omega) (by
    have : (n + l.toNat) * i.bytes ≤ 1073741824 * 65536 := Nat.mul_le_mul hnm hby
    omega)
  refine ⟨Question.cut (.appendCap (n + l.toNat) cap elem) (w.tape w.drawn (.appendCap (n + l.toNat) cap elem)), by simp [Question.cut], ?_⟩
  have hmax : ¬ (IntKind.i64.max < (((n + l.toNat : Nat) : Int))) := by
    simp only [IntKind.max, IntKind.signed, IntKind.bits]; omega
  have hff : (Question.appendCap (n + l.toNat) cap elem).forced = false := rfl
  have hroom : ∀ (k : Nat) (w : World), (askRoom k).run P w = .ok () w := fun k w => by unfold askRoom mark; split <;> rfl
  simp only [Builtin.append_, List.getElem?_toArray, List.getElem?_cons_zero, List.getElem?_cons_succ, Sem.run_bind, run_underlying hu, run_underlying hx, Result.andThen_ok, sizeOf, typeInfo, run_program, hi, Sem.run_pure, Bool.false_eq_true, if_false, if_true, Bool.not_true, asInt, asIntOf, hw, h1, h2, gt_iff_lt, hr, hmax, false_and, Nat.not_lt.2 hnc, choose, Sem.run, hff]
  generalize Question.cut (.appendCap (n + l.toNat) cap elem) (w.tape w.drawn (.appendCap (n + l.toNat) cap elem)) = c
  have ho' := ho w.drew rfl
  simp only [hroom, Result.andThen_ok, zeroValue, typeInfo, Sem.run_bind, run_program, hi, hz, Sem.run_pure, run_newRow]
  by_cases h00 : l.toNat * i.size = 0
  · rw [if_pos h00] at hus'
    simp only [if_pos h00]
    subst hus'
    simp [ho']
    all_goals (congr 2; apply Array.ext'; simp [hus'])
  · rw [if_neg h00] at hus'
    simp only [if_neg h00]
    simp [ho', hi, hz]
    congr 2
    apply Array.ext'; simp [hus']
end
end Go.Proofs.YtkmkhcmfpbffjaaGreat.VI

namespace Go.Proofs.YtkmkhcmfpbffjaaGreat.VI
set_option linter.unusedVariables false
set_option linter.unusedSimpArgs false
def Cx.phan (x : Cx) (id g : Nat) (e : TypeId) (d : D) : Cx := { x with h := newg x.h id g e d, ph := fun j => j = id ∨ x.ph j }
theorem phan_to {x : Cx} (hx : HR x) {id g : Nat} (hb : lw x.h id g = true) (e : TypeId) (d : D) : To x (x.phan id g e d) := by
  have hl : ∀ j b, (x.phan id g e d).lv j b → j ≠ id ∧ x.lv j b := fun j b h => ⟨fun e => h.2 (.inl e), h.1, fun k => h.2 (.inr k)⟩
  have get : ∀ {j b}, (x.phan id g e d).h[j]? = some b → j ≠ id → x.h[j]? = some b := fun hj h => by
    simp only [Cx.phan, newg_get hb, if_neg h] at hj; exact hj
  have own : ∀ n, (x.phan id g e d).own n → x.own n := by
    rintro n ⟨j, b, h1, h2, h3, h4⟩
    obtain ⟨k1, k2⟩ := hl j b h2
    exact ⟨j, b, get h1 k1, k2, h3, h4⟩
  have mono : Mono x (x.phan id g e d) := by
    refine ⟨rfl, fun j b hj => ?_, fun n hn ho => ⟨ho, rfl⟩, Nat.le_refl _⟩
    simp only [Cx.phan, newg_get hb]
    by_cases h : j = id
    · subst h
      have hg : b.gen < g := by unfold lw at hb; simp [hj] at hb; exact hb
      exact ⟨_, if_pos rfl, by simp; omega, fun h0 => by simp at h0; omega⟩
    · exact ⟨b, by rw [if_neg h]; exact hj, Nat.le_refl _, fun _ h0 => ⟨fun k => k.elim h h0.2, trivial, trivial, Nat.le_refl _⟩⟩
  refine ⟨⟨mono, fun n hn ho => ⟨fun k => ho (own n k), rfl⟩, fun n _ ha _ => ha⟩, ⟨fun j b hj hg hm => ?_, fun j b k es hj hg hd => ?_, fun i j b b' hi hg hj hg' hρ => ?_, fun n hn => hx.ownav n (own n hn), hx.avlt, fun j b hj hg => ?_⟩, Beside.refl _⟩
  · obtain ⟨k1, k2⟩ := hl j b hg
    obtain ⟨c, lo, hi, h1, h2, h3, h4, h5⟩ := hx.blk j b (get hj k1) k2 hm
    exact ⟨c, lo, hi, h1, h2, h3.mono mono, h4, h5.mono mono⟩
  · obtain ⟨k1, k2⟩ := hl j b hg
    exact hx.mps j b k es (get hj k1) k2 hd
  · obtain ⟨k1, k2⟩ := hl i b hg
    obtain ⟨k3, k4⟩ := hl j b' hg'
    exact hx.inj i j b b' (get hi k1) k2 (get hj k3) k4 hρ
  · obtain ⟨k1, k2⟩ := hl j b hg
    exact hx.safe j b (get hj k1) k2
theorem phan_own {x : Cx} {id g : Nat} (hb : lw x.h id g = true) (e : TypeId) (d : D) (a : Option Addr) {sz : Nat} (hz : 0 < sz) : VR (x.phan id g e d) (.own id g 0 0 sz) (.slice a 0 0) :=
  ⟨rfl, ⟨g, e, d, true⟩, by simp [Cx.phan, newg_get hb], Nat.le_refl _, fun _ _ => ⟨a, 0, rfl, Nat.le_refl _, hz, .inl ⟨rfl, rfl⟩⟩⟩
def Cx.grew (x : Cx) (id g : Nat) (e : TypeId) (off : Nat) (us : List Value) (d : D) : Cx := { x with w := x.w.setCells (x.ρ id) off us, h := newg x.h id g e d }
theorem grew_to {x : Cx} (hx : HR x) {id g : Nat} {b : Blk} (hb : x.h[id]? = some b) (hg : x.lv id b) (hm : b.d.mpq = false) (hw : b.wr = true) (hlt : b.gen < g) {off : Nat} {us : List Value} (hus : ∀ u ∈ us, one u = true) {d : D} {cs : Array Value} {lo hi : Nat}
    (hcs : x.w.heap[x.ρ id]? = some (.cells cs b.elem (lo, hi))) (hd : VRs x d.toV ((lay cs.toList off us).take d.toV.length)) (hgd : good x d ((lay cs.toList off us).take d.toV.length)) : To x (x.grew id g b.elem off us d) := by
  obtain ⟨cs', lo', hi', h1, h2, h3, hone, _⟩ := hx.blk id b hb hg hm
  rw [hcs] at h1
  injection h1 with h1
  injection h1 with e1 e2 e3
  injection e3 with e3 e4
  subst e1 e3 e4
  have hlw : lw x.h id g = true := by unfold lw; rw [hb]; simpa using hlt
  have hheap := setCells_heap (x.ρ id) b.elem (lo, hi) us off x.w cs hcs
  have hsz : (layA cs off us).size = cs.size := by rw [← Array.length_toList, layA_toList, lay_length]; simp
  have hne : ∀ j b', x.h[j]? = some b' → x.lv j b' → j ≠ id → x.ρ j ≠ x.ρ id := fun j b' hj hg' hji e => hji (hx.inj j id b' b hj hg' hb hg e)
  have hown : x.own (x.ρ id) := ⟨id, b, hb, hg, hw, rfl⟩
  have get : ∀ {j b'}, (x.grew id g b.elem off us d).h[j]? = some b' → j ≠ id → x.h[j]? = some b' := fun hj h => by
    simp only [Cx.grew, newg_get hlw, if_neg h] at hj; exact hj
  have howns : ∀ n, (x.grew id g b.elem off us d).own n → x.own n := by
    rintro n ⟨j, b', k1, k2, k3, k4⟩
    by_cases h : j = id
    · subst h; exact ⟨j, b, hb, hg, hw, k4⟩
    · exact ⟨j, b', get k1 h, k2, k3, k4⟩
  have ext : Ext x (x.grew id g b.elem off us d) := by
    refine ⟨⟨rfl, fun j b' hj => ?_, fun n hn ho => ⟨ho, setCells_other _ _ (by rintro rfl; exact ho (hx.ownav _ hown)) _ _ _⟩, by simp [Cx.grew, setCells_size]⟩, fun n hn ho => ⟨fun h => ho (howns n h), setCells_other _ _ (by rintro rfl; exact ho hown) _ _ _⟩, fun _ _ ha _ => ha⟩
    simp only [Cx.grew, newg_get hlw]
    by_cases h : j = id
    · subst h
      rw [hb] at hj; injection hj with hj; subst hj
      exact ⟨_, if_pos rfl, by simp; omega, fun h0 => by simp at h0; omega⟩
    · refine ⟨b', by rw [if_neg h]; exact hj, Nat.le_refl _, fun _ h0 => ⟨h0.2, trivial, ?_, Nat.le_refl _⟩⟩
      unfold World.shape?
      rw [setCells_other _ _ (hne j b' hj h0 h)]
  refine ⟨ext, ⟨fun j b' hj hg' hm' => ?_, fun j b' k es hj hg' hdm => ?_, fun i j b1 b2 hi hg1 hj hg2 hρ => ?_, fun n hn => hx.ownav n (howns n hn), fun n hn => by simp only [Cx.grew, setCells_size]; exact hx.avlt n hn, fun j b' hj hg' => ?_⟩, setCells_beside _ _ _ _⟩
  · by_cases h : j = id
    · subst h
      simp only [Cx.grew, newg_get hlw, if_pos] at hj
      injection hj with hj; subst hj
      refine ⟨layA cs off us, lo, hi, hheap, by rw [hsz]; exact h2, ?_, by rw [layA_toList]; exact lay_one us _ off hus hone, by rw [layA_toList]; exact hgd.mono ext.mono⟩
      show VRs (x.grew j g b.elem off us d) d.toV ((layA cs off us).toList.take d.toV.length)
      rw [layA_toList]
      exact hd.mono ext.mono
    · obtain ⟨c, lo', hi', k1, k2, k3, k4, k5⟩ := hx.blk j b' (get hj h) hg' hm'
      exact ⟨c, lo', hi', by
        show (x.w.setCells (x.ρ id) off us).heap[x.ρ j]? = _
        rw [setCells_other _ _ (hne j b' (get hj h) hg' h)]; exact k1, k2, k3.mono ext.mono, k4, k5.mono ext.mono⟩
  · by_cases h : j = id
    · subst h
      simp only [Cx.grew, newg_get hlw, if_pos] at hj
      injection hj with hj; subst hj
      have := good_mpq hgd
      simp only at hdm
      rw [hdm] at this
      cases this
    · exact (hx.mps j b' k es (get hj h) hg' hdm).of (setCells_other _ _ (hne j b' (get hj h) hg' h) _ _ _)
  · have f : ∀ {i b1}, (x.grew id g b.elem off us d).h[i]? = some b1 → x.lv i b1 → ∃ c, x.h[i]? = some c ∧ x.lv i c := fun {i b1} hi hg1 => by
      by_cases h : i = id
      · subst h; exact ⟨b, hb, hg⟩
      · exact ⟨b1, get hi h, hg1⟩
    obtain ⟨c1, p1, p2⟩ := f hi hg1
    obtain ⟨c2, q1, q2⟩ := f hj hg2
    exact hx.inj i j c1 c2 p1 p2 q1 q2 hρ
  · by_cases h : j = id
    · subst h
      simp only [Cx.grew, newg_get hlw, if_pos] at hj
      injection hj with hj; subst hj; exact .inl rfl
    · exact hx.safe j b' (get hj h) hg'
def catg (n : Nat) (g f : Nat → List V) : Nat → List V := fun j => match Nat.blt j n with
  | true => g j
  | false => f (j - n)
def updl (sz : Nat) (cs : List V) (g : Nat → List V) (n : Nat) : Nat → Nat → (Nat → List V)
  | 0, _ => g
  | m + 1, k => updl sz cs (upd g (n + k) ((cs.drop (k * sz)).take sz)) n m (k + 1)
def catD (sz n : Nat) (d1 : D) (m : Nat) (d2 : D) : Option D :=
  match d1 with
  | .ints k xs => match d2 with
    | .ints k' ys => if k = k' ∧ sz = 1 then some (.ints k (xs.take n ++ ys)) else none
    | .list cs => match asInts k cs with
      | some ys => if sz = 1 then some (.ints k (xs.take n ++ ys)) else none
      | none => none
    | _ => none
  | .recs _ s g => match d2 with
    | .list cs => if s = sz ∧ cs.all bareOk = true then some (.recs (n + m) sz (updl sz cs g n m 0)) else none
    | .recs _ s' f => if s = sz ∧ s' = sz then some (.recs (n + m) sz (catg n g f)) else none
    | .ints k ys => if s = sz ∧ sz = 1 then some (.recs (n + m) 1 (catg n g fun j => [.i k (ys.getD j 0)])) else none
    | .mix _ _ _ => none
    | .bm _ _ => none
  | .list cs => match d2 with
    | .list ds => some (.list (cs.take (n * sz) ++ ds))
    | .ints k ys => match asInts k (cs.take (n * sz)) with
      | some xs => if sz = 1 then some (.ints k (xs ++ ys)) else none
      | none => none
    | .recs _ s' f => match cs.take (n * sz) with
      | [] => if s' = sz then some (.recs m sz f) else none
      | _ => none
    | .mix _ _ _ => none
    | .bm _ _ => none
  | .mix _ _ _ => none
  | .bm _ _ => none
theorem fitted_take {sz : Nat} {g : Nat → List V} {n n' : Nat} (h : n ≤ n') : (fitted sz g n').take (n * sz) = fitted sz g n := by
  induction n' with
  | zero => have : n = 0 := by omega
            subst this; simp [fitted]
  | succ n' ih =>
    by_cases hn : n = n' + 1
    · subst hn; rw [List.take_of_length_le (by rw [fitted_length]; exact Nat.le_refl _)]
    · simp only [fitted]
      rw [List.take_append_of_le_length (by rw [fitted_length]; exact Nat.mul_le_mul_right _ (by omega))]
      exact ih (by omega)
theorem fitted_add (sz : Nat) (g : Nat → List V) (n : Nat) : ∀ m, fitted sz g (n + m) = fitted sz g n ++ fitted sz (fun j => g (n + j)) m
  | 0 => by simp [fitted]
  | m + 1 => by
    show fitted sz g (n + m) ++ fit sz (g (n + m)) = _
    rw [fitted_add sz g n m]; simp [fitted]
theorem catg_toV (sz n m : Nat) (g f : Nat → List V) : fitted sz (catg n g f) (n + m) = fitted sz g n ++ fitted sz f m := by
  rw [fitted_add]
  congr 1
  · exact fitted_congr fun j hj => by unfold catg; rw [show Nat.blt j n = true from Nat.ble_eq_true_of_le hj]
  · exact fitted_congr fun j hj => by
      unfold catg
      rw [show Nat.blt (n + j) n = false by
        rw [Bool.eq_false_iff]; intro h; have := Nat.le_of_ble_eq_true h; omega]
      simp
theorem fitted_ints (k : IntKind) (ys : List Int) : fitted 1 (fun j => [.i k (ys.getD j 0)]) ys.length = ys.map (.i k) := by
  apply List.ext_getElem?
  intro i
  by_cases hi : i < ys.length
  · have := fitted_get (sz := 1) (g := fun j => [V.i k (ys.getD j 0)]) (row := i) (k := 0) (by omega) hi
    simp only [Nat.mul_one, Nat.add_zero] at this
    rw [this]
    simp [fit, hi]
  · rw [List.getElem?_eq_none (by rw [fitted_length]; omega), List.getElem?_eq_none (by simp; omega)]
theorem updl_toV (sz : Nat) (cs : List V) (n : Nat) : ∀ (m k : Nat) (g : Nat → List V), (k + m) * sz = cs.length → fitted sz (updl sz cs g n m k) (n + k + m) = fitted sz g (n + k) ++ cs.drop (k * sz)
  | 0, k, g, h => by
    simp only [Nat.add_zero] at h ⊢
    simp [updl, ← h]
  | m + 1, k, g, h => by
    have e : n + k + (m + 1) = n + (k + 1) + m := by omega
    rw [e]
    simp only [updl]
    rw [updl_toV sz cs n m (k + 1) _ (by rw [← h]; congr 1; omega)]
    have e2 : n + (k + 1) = (n + k) + 1 := by omega
    rw [e2]
    simp only [fitted]
    rw [upd_at, fitted_congr (f := g) (fun j hj => upd_ne (by omega)), fit_id (by
      rw [List.length_take, List.length_drop, ← h]
      have : (k + (m + 1)) * sz - k * sz = (m + 1) * sz := by rw [← Nat.sub_mul]; congr 1; omega
      rw [this]
      exact Nat.min_eq_left (Nat.le_mul_of_pos_left _ (by omega)))]
    rw [List.append_assoc]
    congr 1
    rw [Nat.succ_mul, ← List.drop_drop]
    exact List.take_append_drop sz _
theorem catD_toV {sz n m : Nat} {d1 d2 d : D} (h : catD sz n d1 m d2 = some d) (h1 : n * sz ≤ d1.toV.length) (h2 : d2.toV.length = m * sz) (hz : 0 < sz) : d.toV = d1.toV.take (n * sz) ++ d2.toV := by
  unfold catD at h
  split at h
  · rename_i k xs
    split at h
    · split at h
      · rename_i hc
        obtain ⟨rfl, rfl⟩ := hc
        injection h with h; subst h
        simp [D.toV, List.map_take]
      · cases h
    · split at h
      · rename_i ys hy
        split at h
        · rename_i hs; subst hs
          injection h with h; subst h
          simp [D.toV, List.map_take, asInts_ok hy]
        · cases h
      · cases h
    · cases h
  · rename_i n' s g
    have hn : s = sz → n ≤ n' := by
      rintro rfl
      simp only [D.toV, fitted_length] at h1
      exact Nat.le_of_mul_le_mul_right h1 hz
    split at h
    · rename_i cs
      split at h
      · rename_i hs
        obtain ⟨hs, _⟩ := hs
        injection h with h; subst h
        have := updl_toV sz cs n m 0 g (by rw [Nat.zero_add]; exact h2.symm)
        simp only [Nat.add_zero, Nat.zero_mul, List.drop_zero] at this
        simp only [D.toV, this]
        subst hs
        rw [fitted_take (hn rfl)]
      · cases h
    · rename_i m' s' f
      split at h
      · rename_i hs
        obtain ⟨rfl, hs'⟩ := hs
        injection h with h; subst h
        simp only [D.toV] at h2 ⊢
        rw [fitted_length, hs'] at h2
        have : m' = m := Nat.eq_of_mul_eq_mul_right hz h2
        subst this
        rw [catg_toV, fitted_take (hn rfl), hs']
      · cases h
    · rename_i k ys
      split at h
      · rename_i hs
        obtain ⟨rfl, rfl⟩ := hs
        injection h with h; subst h
        simp only [D.toV] at h2 ⊢
        have : ys.length = m := by simpa using h2
        subst this
        rw [catg_toV, fitted_take (hn rfl), fitted_ints]
      · cases h
    · cases h
    · cases h
  · rename_i cs
    split at h
    · injection h with h; subst h; rfl
    · rename_i k ys
      split at h
      · rename_i xs hx
        split at h
        · injection h with h; subst h
          simp [D.toV, asInts_ok hx]
        · cases h
      · cases h
    · rename_i m' s' f
      split at h
      · rename_i he
        split at h
        · rename_i hs; subst hs
          injection h with h; subst h
          simp only [D.toV] at h2 ⊢
          rw [fitted_length] at h2
          have : m' = m := Nat.eq_of_mul_eq_mul_right hz h2
          subst this
          rw [he]; rfl
        · cases h
      · cases h
    · cases h
    · cases h
  · cases h
  · cases h
theorem updl_len (sz : Nat) (cs : List V) (n : Nat) : ∀ (m k : Nat) (g : Nat → List V), (k + m) * sz ≤ cs.length → (∀ j, j < n + k → (g j).length = sz) → ∀ j, j < n + k + m → (updl sz cs g n m k j).length = sz
  | 0, k, g, _, hg, j, hj => hg j (by omega)
  | m + 1, k, g, h, hg, j, hj => by
    simp only [updl]
    refine updl_len sz cs n m (k + 1) _ (by rw [show k + 1 + m = k + (m + 1) by omega]; exact h) (fun j hj => ?_) j (by omega)
    by_cases e : j = n + k
    · subst e
      rw [upd_at, List.length_take, List.length_drop]
      have h1 : (k + 1) * sz ≤ (k + (m + 1)) * sz := Nat.mul_le_mul_right _ (by omega)
      rw [Nat.succ_mul] at h1
      omega
    · rw [upd_ne e]; exact hg j (by omega)
theorem catD_good {x : Cx} {sz n m : Nat} {d1 d2 d : D} {l us : List Value} (h : catD sz n d1 m d2 = some d) (h1 : n * sz ≤ d1.toV.length) (h2 : d2.toV.length = m * sz) (hz : 0 < sz) (g1 : n = 0 ∨ good x d1 l) (g2 : good x d2 us) (v2 : VRs x d2.toV us) : good x d (l.take (n * sz) ++ us) := by
  have ht := catD_toV h h1 h2 hz
  unfold catD at h
  split at h
  · split at h
    · split at h
      · injection h with h; subst h; trivial
      · cases h
    · split at h
      · split at h
        · injection h with h; subst h; trivial
        · cases h
      · cases h
    · cases h
  · rename_i n' s g
    have hn : s = sz → n ≤ n' := by
      rintro rfl
      simp only [D.toV, fitted_length] at h1
      exact Nat.le_of_mul_le_mul_right h1 hz
    have g1' : s = sz → (∀ j, j < n → (g j).length = s) ∧ VRs x.bare ((fitted s g n').take (n * s)) (l.take (n * s)) := by
      rintro rfl
      rcases g1 with rfl | g1
      · exact ⟨fun j hj => by omega, by simp [VRs]⟩
      · exact ⟨fun j hj => g1.1 j (by have := hn rfl; omega), g1.2.take _⟩
    clear g1
    split at h
    · rename_i cs
      split at h
      · rename_i hs
        obtain ⟨rfl, hb⟩ := hs
        have g1 := g1' rfl
        injection h with h; subst h
        refine ⟨updl_len s cs n m 0 g (by simp only [D.toV] at h2; rw [Nat.zero_add]; omega) (fun j hj => g1.1 j (by omega)), ?_⟩
        simp only [D.toV] at ht
        rw [ht]
        exact g1.2.append (VRs_bareOk hb v2)
      · cases h
    · rename_i m' s' f
      split at h
      · rename_i hs
        obtain ⟨rfl, hs'⟩ := hs
        injection h with h; subst h
        simp only [D.toV] at h2 ht
        rw [fitted_length, hs'] at h2
        have : m' = m := Nat.eq_of_mul_eq_mul_right hz h2
        subst this
        subst hs'
        have g1 := g1' rfl
        refine ⟨fun j hj => ?_, ?_⟩
        · unfold catg
          cases hb : Nat.blt j n with
          | true => exact g1.1 j (Nat.le_of_ble_eq_true hb)
          | false =>
            refine g2.1 (j - n) ?_
            have : ¬ (j < n) := fun h => by
              have : Nat.blt j n = true := Nat.ble_eq_true_of_le h
              rw [hb] at this; cases this
            omega
        · rw [ht]
          exact g1.2.append g2.2
      · cases h
    · rename_i k ys
      split at h
      · rename_i hs
        obtain ⟨rfl, rfl⟩ := hs
        injection h with h; subst h
        simp only [D.toV] at ht v2
        have g1 := g1' rfl
        refine ⟨fun j hj => ?_, ?_⟩
        · unfold catg
          cases hb : Nat.blt j n with
          | true => exact g1.1 j (Nat.le_of_ble_eq_true hb)
          | false => rfl
        · rw [ht]
          refine g1.2.append ?_
          rw [v2.ints]
          exact VRs.of_ints x.bare k ys
      · cases h
    · cases h
    · cases h
  · rename_i cs
    split at h
    · injection h with h; subst h; trivial
    · split at h
      · split at h
        · injection h with h; subst h; trivial
        · cases h
      · cases h
    · rename_i m' s' f
      split at h
      · rename_i he
        split at h
        · rename_i hs; subst hs
          injection h with h; subst h
          simp only [D.toV] at h2 ht
          rw [fitted_length] at h2
          have : m' = m := Nat.eq_of_mul_eq_mul_right hz h2
          subst this
          have hl : n * s' = 0 := by
            have := congrArg List.length he
            simp only [List.length_take, List.length_nil] at this
            simp only [D.toV] at h1
            omega
          rw [hl, List.take_zero, List.nil_append]
          exact g2
        · cases h
      · cases h
    · cases h
    · cases h
  · cases h
  · cases h
end Go.Proofs.YtkmkhcmfpbffjaaGreat.VI
