import Derived.Test.YtcpicekmnkjceaaVF
namespace Go.Proofs.Ytcpicekmnkjceaa.VI
set_option linter.unusedVariables false
set_option linter.unusedSimpArgs false

/-- What stays of the world beside its memory. -/
structure Beside (w w' : World) : Prop where
  os : w'.os = w.os
  tape : w'.tape = w.tape
  output : w'.output = w.output
theorem Beside.refl (w : World) : Beside w w := ⟨rfl, rfl, rfl⟩
theorem Beside.trans {a b c : World} (h : Beside a b) (k : Beside b c) : Beside a c := ⟨k.os.trans h.os, k.tape.trans h.tape, k.output.trans h.output⟩
structure To (x y : Cx) : Prop where
  ext : Ext x y
  hr : HR y
  beside : Beside x.w y.w
theorem To.refl {x : Cx} (h : HR x) : To x x := ⟨Ext.refl x, h, Beside.refl _⟩
theorem To.trans {x y z : Cx} (h : To x y) (k : To y z) : To x z := ⟨h.ext.trans k.ext, k.hr, h.beside.trans k.beside⟩

def blank (h : Heap) (id : Nat) : Bool := match h[id]? with | some b => b.gen == 0 | none => false
/-- A new block under the name id. -/
def newb (h : Heap) (id : Nat) (e : TypeId) (d : D) : Heap := h.set id ⟨1, e, d, true⟩
def Cx.new (x : Cx) (id : Nat) (e : TypeId) (d : D) (l : List Value) : Cx :=
  { P := x.P, w := x.w.alloc (.cells l.toArray e), ρ := fun j => if j = id then x.w.heap.size else x.ρ j, h := newb x.h id e d, av := fun n => x.av n ∨ n = x.w.heap.size }
theorem HR.lt {x : Cx} (h : HR x) {id : Nat} {b : Blk} (hb : x.h[id]? = some b) (hg : 0 < b.gen) : x.ρ id < x.w.heap.size := by
  obtain ⟨cs, lo, hi, h1, _⟩ := h.blk id b hb hg
  rcases Nat.lt_or_ge (x.ρ id) x.w.heap.size with hlt | hge
  · exact hlt
  · simp [Array.getElem?_eq_none hge] at h1
theorem heap_alloc_lt (w : World) (o : Obj) (n : Nat) (h : n < w.heap.size) : (w.alloc o).heap[n]? = w.heap[n]? := by
  rw [show (w.alloc o).heap = w.heap.push o from rfl, Array.getElem?_push, if_neg (by omega)]
theorem heap_alloc_new' (w : World) (o : Obj) : (w.alloc o).heap[w.heap.size]? = some o := by
  rw [show (w.alloc o).heap = w.heap.push o from rfl, Array.getElem?_push, if_pos rfl]
theorem newb_get {h : Heap} {id : Nat} (hb : blank h id = true) (e : TypeId) (d : D) (j : Nat) : (newb h id e d)[j]? = if j = id then some ⟨1, e, d, true⟩ else h[j]? := by
  unfold newb
  rw [List.getElem?_set]
  have hlt : id < h.length := by
    unfold blank at hb
    rcases Nat.lt_or_ge id h.length with hlt | hge
    · exact hlt
    · simp [List.getElem?_eq_none hge] at hb
  by_cases hj : id = j
  · subst hj; simp [hlt]
  · simp [hj, Ne.symm hj]
theorem shape_alloc (w : World) (o : Obj) (n : Nat) (h : n < w.heap.size) : (w.alloc o).shape? n = w.shape? n := by
  unfold World.shape?; rw [heap_alloc_lt w o n h]
theorem new_own_iff {x : Cx} {id : Nat} (hb : blank x.h id = true) (e : TypeId) (d : D) (l : List Value) (n : Nat) (hn : n < x.w.heap.size) : (x.new id e d l).own n ↔ x.own n := by
  constructor
  · rintro ⟨j, b, h1, h2, h3, h4⟩
    simp only [Cx.new, newb_get hb] at h1 h4
    by_cases h : j = id
    · rw [if_pos h] at h4; omega
    · rw [if_neg h] at h1 h4
      exact ⟨j, b, h1, h2, h3, h4⟩
  · rintro ⟨j, b, h1, h2, h3, h4⟩
    have h : j ≠ id := by
      rintro rfl
      unfold blank at hb; simp [h1] at hb; omega
    exact ⟨j, b, by simp only [Cx.new, newb_get hb]; rw [if_neg h]; exact h1, h2, h3, by simp only [Cx.new]; rw [if_neg h]; exact h4⟩
theorem new_ext {x : Cx} (hx : HR x) {id : Nat} (hb : blank x.h id = true) (e : TypeId) (d : D) (l : List Value) : Ext x (x.new id e d l) := by
  refine ⟨⟨rfl, fun j b hj => ?_, fun n hn ho => ⟨?_, heap_alloc_lt _ _ _ hn⟩, by show _ ≤ (x.w.heap.push _).size; simp⟩, fun n hn ho => ⟨fun h => ho ((new_own_iff hb e d l n hn).1 h), heap_alloc_lt _ _ _ hn⟩, fun n _ ha _ => .inl ha⟩
  · simp only [Cx.new, newb_get hb]
    by_cases h : j = id
    · subst h
      have hg : b.gen = 0 := by unfold blank at hb; simp [hj] at hb; exact hb
      exact ⟨_, if_pos rfl, by simp [hg], fun _ h0 => by omega⟩
    · refine ⟨b, by rw [if_neg h]; exact hj, Nat.le_refl _, fun _ h0 => ⟨if_neg h, ?_, Nat.le_refl _⟩⟩
      rw [if_neg h]
      exact shape_alloc _ _ _ (hx.lt hj h0)
  · rintro (h | h)
    · exact ho h
    · omega
theorem new_to {x : Cx} (hx : HR x) {id : Nat} (hb : blank x.h id = true) (e : TypeId) {d : D} {l : List Value} (hc : VRs x d.toV (l.take d.toV.length)) : To x (x.new id e d l) := by
  have he := new_ext hx hb e d l
  refine ⟨he, ⟨fun j b hj hg => ?_, fun i j b b' hi hg hj hg' hρ => ?_, fun n hn => ?_, fun n hn => ?_, fun j b hj hg => ?_⟩, ⟨rfl, rfl, rfl⟩⟩
  · simp only [Cx.new, newb_get hb] at hj ⊢
    by_cases h : j = id
    · rw [if_pos h] at hj ⊢
      injection hj with hj; subst hj
      refine ⟨l.toArray, 0, 0, heap_alloc_new' _ _, .inl (by omega), ?_⟩
      exact (by simpa using hc.mono he.mono : VRs (x.new id e d l) d.toV (l.toArray.toList.take d.toV.length))
    · rw [if_neg h] at hj ⊢
      obtain ⟨c, lo, hi, h1, h2, h3⟩ := hx.blk j b hj hg
      exact ⟨c, lo, hi, by rw [heap_alloc_lt _ _ _ (hx.lt hj hg)]; exact h1, h2, h3.mono he.mono⟩
  · simp only [Cx.new, newb_get hb] at hi hj hρ
    by_cases h : i = id <;> by_cases k : j = id
    · rw [h, k]
    · rw [if_pos h, if_neg k] at hρ
      rw [if_neg k] at hj
      have := hx.lt hj hg'; omega
    · rw [if_neg h, if_pos k] at hρ
      rw [if_neg h] at hi
      have := hx.lt hi hg; omega
    · rw [if_neg h] at hi hρ
      rw [if_neg k] at hj hρ
      exact hx.inj i j b b' hi hg hj hg' hρ
  · obtain ⟨j, b, h1, h2, h3, h4⟩ := hn
    simp only [Cx.new, newb_get hb] at h1 h4 ⊢
    by_cases h : j = id
    · rw [if_pos h] at h4; exact .inr h4.symm
    · rw [if_neg h] at h1 h4
      exact .inl (hx.ownav n ⟨j, b, h1, h2, h3, h4⟩)
  · have hsz : (x.new id e d l).w.heap.size = x.w.heap.size + 1 := by simp [Cx.new]
    rw [hsz]
    rcases hn with hn | hn
    · have := hx.avlt n hn; omega
    · omega
  · simp only [Cx.new, newb_get hb] at hj ⊢
    by_cases h : j = id
    · rw [if_pos h] at hj; injection hj with hj; subst hj; exact .inl rfl
    · rw [if_neg h] at hj ⊢
      rcases hx.safe j b hj hg with p | p
      · exact .inl p
      · refine .inr (fun q => ?_)
        rcases q with q | q
        · exact p q
        · have := hx.lt hj hg; omega
theorem new_ref {x : Cx} {id : Nat} (hb : blank x.h id = true) (e : TypeId) (d : D) (l : List Value) : VR (x.new id e d l) (.ref id 1 0) (.pointer (some ⟨x.w.heap.size, 0, none⟩)) :=
  ⟨rfl, ⟨1, e, d, true⟩, by simp [Cx.new, newb_get hb], by simp, fun _ _ => by simp [Cx.new]⟩
theorem new_own {x : Cx} {id : Nat} (hb : blank x.h id = true) (e : TypeId) (d : D) (l : List Value) (n cap sz : Nat) (hn : n ≤ cap) (hl : cap * sz = l.length) (hd : 0 < sz ∧ (n = 0 ∨ n * sz ≤ d.toV.length)) : VR (x.new id e d l) (.own id 1 0 n sz) (.slice (some ⟨x.w.heap.size, 0, none⟩) n cap) := by
  refine ⟨rfl, ⟨1, e, d, true⟩, by simp [Cx.new, newb_get hb], by simp, fun _ _ => ⟨0, cap, by simp [Cx.new], hn, by rw [Nat.zero_add]; exact hd, .inr ⟨rfl, e, l.length, ?_, by omega⟩⟩⟩
  simp only [Cx.new, if_true]
  unfold World.shape?; rw [heap_alloc_new']; simp

/-- What an operation that is carried out yields: the value r (of a store: none), behind it the heap h'. -/
def Does (x : Cx) (s : Sem Next) (r : V) (h' : Heap) : Prop :=
  ∃ n y, s.run x.P x.w = .ok n y.w ∧ To x y ∧ y.P = x.P ∧ y.h = h' ∧ ((∃ v, n = .value v ∧ VR y r v) ∨ (n = .skip ∧ r = .u))
theorem Does.pure_ {x : Cx} (hx : HR x) {s : Sem Value} {r : V} (h : ∃ z, s.run x.P x.w = .ok z x.w ∧ VR x r z) : Does x (do pure (.value (← s))) r x.h := by
  obtain ⟨z, h1, h2⟩ := h
  exact ⟨.value z, x, by simp only [Sem.run_bind, h1, Result.andThen_ok, Sem.run_pure], To.refl hx, rfl, rfl, .inl ⟨z, rfl, h2⟩⟩
theorem run_newRow (P : Program) (w : World) (e : TypeId) (cs : Array Value) : (newRow e cs).run P w = .ok ⟨w.heap.size, 0, none⟩ (w.alloc (.cells cs e)) := by
  simp [newRow, newObj]; rfl
theorem run_newVar (P : Program) (w : World) (e : TypeId) (v : Value) : (newVar e v).run P w = .ok ⟨w.heap.size, 0, none⟩ (w.alloc (.cells v.cells e)) := run_newRow P w e v.cells

/-- Cells as a block's content: whole numbers of one kind as such. -/
def asInts (k : IntKind) : List V → Option (List Int)
  | [] => some []
  | .i k' n :: l => if k = k' then (match asInts k l with | some xs => some (n :: xs) | none => none) else none
  | _ => none
theorem asInts_ok {k : IntKind} : ∀ {cs : List V} {xs : List Int}, asInts k cs = some xs → xs.map (V.i k) = cs
  | [], _, h => by simp [asInts] at h; subst h; rfl
  | c :: cs, xs, h => by
    cases c with
    | i k' n =>
      simp only [asInts] at h
      split at h
      · rename_i hk; subst hk
        split at h
        · rename_i ys hy
          injection h with h; subst h
          simp [asInts_ok hy]
        · cases h
      · cases h
    | _ => simp [asInts] at h
def mkD (P : Program) (e : TypeId) (cs : List V) : D :=
  match P.underlying e with
  | some (.int k) => match asInts k cs with
    | some xs => .ints k xs
    | none => .list cs
  | _ => .list cs
theorem mkD_toV (P : Program) (e : TypeId) (cs : List V) : (mkD P e cs).toV = cs := by
  unfold mkD
  split
  · split
    · rename_i h; exact asInts_ok h
    · rfl
  · rfl
/-- box, alloc. -/
theorem box_ok {x : Cx} (hx : HR x) {id : Nat} (hb : blank x.h id = true) (e : TypeId) {c : V} {cs : List V} {v : Value} (hc : vcells c = some cs) (hv : VR x c v) :
    Does x (do pure (.value (← Instr.box e v))) (.ref id 1 0) (newb x.h id e (mkD x.P e cs)) := by
  have h1 := VR_cells hv hc
  refine ⟨_, x.new id e (mkD x.P e cs) v.cells.toList, ?_, new_to hx hb e (by rw [mkD_toV, List.take_of_length_le (by rw [h1.length]; omega)]; exact h1), rfl, rfl, .inl ⟨_, rfl, new_ref hb e _ _⟩⟩
  simp [Instr.box, run_newVar, Cx.new]
theorem alloc_ok {x : Cx} (hx : HR x) {id : Nat} (hb : blank x.h id = true) (e : TypeId) {cs : List V} (hz : zcells x.P e = some cs) :
    Does x (do pure (.value (← Instr.alloc e true (.tuple #[])))) (.ref id 1 0) (newb x.h id e (mkD x.P e cs)) := by
  obtain ⟨z, h1, h2⟩ := zcells_ok hz
  refine ⟨_, x.new id e (mkD x.P e cs) z.cells.toList, ?_, new_to hx hb e (by rw [mkD_toV, List.take_of_length_le (by rw [h2.length]; omega)]; exact h2), rfl, rfl, .inl ⟨_, rfl, new_ref hb e _ _⟩⟩
  simp [Instr.alloc, h1, run_newVar, Cx.new]

/-- A load: t's cells from place off on. -/
def vload (P : Program) (t : TypeId) (cs : List V) (off : Nat) : Option V :=
  match aggOf P t, szOf P t with
  | some true, some n => if off + n ≤ cs.length then some (.agg ((cs.drop off).take n)) else none
  | some false, _ => cs[off]?
  | _, _ => none
theorem vload_ok {x : Cx} {t : TypeId} {cs : List V} {off bk o : Nat} {r : V} (h : vload x.P t cs off = some r) (hc : ∀ j c, cs[j]? = some c → ∃ v, x.w.cell? ⟨bk, o + j, none⟩ = some v ∧ VR x c v) :
    ∃ z, (loadVar t ⟨bk, o + off, none⟩).run x.P x.w = .ok z x.w ∧ VR x r z := by
  unfold vload at h
  split at h
  · rename_i n ha hs
    split at h
    · rename_i hb
      simp only [Option.some.injEq] at h; subst h
      have key : ∀ (ds : List V) (k : Nat), (∀ j c, ds[j]? = some c → ∃ v, x.w.cell? ⟨bk, k + j, none⟩ = some v ∧ VR x c v) → ∃ l : List Value, VRs x ds l ∧ ∀ j v, l[j]? = some v → x.w.cell? ⟨bk, k + j, none⟩ = some v := by
        intro ds
        induction ds with
        | nil => intro k _; exact ⟨[], rfl, fun j v h => by simp at h⟩
        | cons d ds ih =>
          intro k hd
          obtain ⟨v, hv, hr⟩ := hd 0 d rfl
          obtain ⟨l, h1, h2⟩ := ih (k + 1) (fun j c hj => by
            have := hd (j + 1) c (by simpa using hj)
            rwa [show k + (j + 1) = k + 1 + j by omega] at this)
          refine ⟨v :: l, ⟨v, l, rfl, hr, h1⟩, fun j u hj => ?_⟩
          cases j with
          | zero => simp at hj; subst hj; exact hv
          | succ j =>
            have := h2 j u (by simpa using hj)
            rwa [show k + 1 + j = k + (j + 1) by omega] at this
      obtain ⟨l, h1, h2⟩ := key ((cs.drop off).take n) (o + off) (fun j c hj => by
        rw [List.getElem?_take] at hj
        split at hj
        · rw [List.getElem?_drop] at hj
          have := hc _ c hj
          rwa [← Nat.add_assoc] at this
        · cases hj)
      refine ⟨.agg l.toArray, ?_, l, rfl, h1⟩
      have hlen : l.length = n := by rw [h1.length, List.length_take, List.length_drop]; omega
      have hld := run_loadCells_list (P := x.P) x.w ⟨bk, o + off, none⟩ l (fun j v hj => by rw [addr_add]; exact h2 j v hj)
      rw [hlen] at hld
      simp [loadVar, run_aggOf ha, run_szOf hs, hld]
    · cases h
  · rename_i ha
    obtain ⟨v, h1, h2⟩ := hc off r h
    refine ⟨v, ?_, h2⟩
    simp [loadVar, run_aggOf ha, load, Sem.run, h1]
  · cases h

theorem block_cell {x : Cx} (hx : HR x) {id : Nat} {b : Blk} (hb : x.h[id]? = some b) (hg : 0 < b.gen) (j : Nat) (c : V) (hc : b.cs[j]? = some c) : ∃ v, x.w.cell? ⟨x.ρ id, j, none⟩ = some v ∧ VR x c v := by
  obtain ⟨cs, lo, hi, h1, _, h3⟩ := hx.blk id b hb hg
  obtain ⟨v, hv, hr⟩ := h3.get j c hc
  refine ⟨v, ?_, hr⟩
  have hj : j < b.cs.length := (List.getElem?_eq_some_iff.1 hc).1
  rw [List.getElem?_take, if_pos hj] at hv
  simpa [World.cell?, h1] using hv
/-- The block behind a handle that is its own as it is now. -/
def blkOf (h : Heap) (id gen : Nat) : Option Blk := match h[id]? with | some b => if b.gen == gen && decide (0 < gen) then some b else none | none => none
theorem blkOf_spec {h : Heap} {id gen : Nat} {b : Blk} (e : blkOf h id gen = some b) : h[id]? = some b ∧ b.gen = gen ∧ 0 < gen ∧ cur h id gen = true := by
  unfold blkOf at e
  split at e
  · rename_i b' hb
    split at e
    · rename_i hc
      injection e with e; subst e
      simp at hc
      exact ⟨hb, hc.1, hc.2, by simp [cur, hb, hc]⟩
    · cases e
  · cases e
def vloadD (P : Program) (t : TypeId) (d : D) (off : Nat) : Option V :=
  match d with
  | .list cs => vload P t cs off
  | .ints k xs => match aggOf P t with
    | some false => if off < xs.length then some (.i k (xs.getD off 0)) else none
    | _ => none
theorem vloadD_toV {P : Program} {t : TypeId} {d : D} {off : Nat} {r : V} (h : vloadD P t d off = some r) : vload P t d.toV off = some r := by
  unfold vloadD at h
  split at h
  · exact h
  · split at h
    · rename_i k xs ha
      split at h
      · rename_i hlt
        injection h with h; subst h
        unfold vload
        simp only [ha]
        cases szOf P t <;> simp [D.toV, hlt]
      · cases h
    · cases h
def vloadAt (P : Program) (h : Heap) (t : TypeId) : V → Option V
  | .ref id gen off => match blkOf h id gen with
    | some b => vloadD P t b.d off
    | none => none
  | .pl cs => vload P t cs 0
  | _ => none
theorem vloadAt_ok {x : Cx} (hx : HR x) {t : TypeId} {c r : V} {v : Value} (h : vloadAt x.P x.h t c = some r) (hv : VR x c v) : ∃ z, (Instr.loadAt t v).run x.P x.w = .ok z x.w ∧ VR x r z := by
  unfold vloadAt at h
  split at h
  · rename_i id gen off
    split at h
    · rename_i b hb
      obtain ⟨h1, h2, h3, h4⟩ := blkOf_spec hb
      rw [cur_ref h4 hv]
      obtain ⟨z, k1, k2⟩ := vload_ok (bk := x.ρ id) (o := 0) (vloadD_toV h) (fun j c hj => by
        rw [Nat.zero_add]; exact block_cell hx h1 (by omega) j c hj)
      refine ⟨z, ?_, k2⟩
      rw [Nat.zero_add] at k1
      simpa [Instr.loadAt, Instr.sureAddr] using k1
    · cases h
  · rename_i cs
    obtain ⟨bk, off, rfl, hr⟩ := hv
    obtain ⟨z, k1, k2⟩ := vload_ok (x := x) (bk := bk) (o := off) h (fun j c hj => by
      rcases hr with h0 | ⟨_, hs⟩
      · subst h0; simp at hj
      · obtain ⟨v, p, q⟩ := hs.get j c hj
        exact ⟨v, p, q.mono (Mono.unbare x)⟩)
    exact ⟨z, by simpa [Instr.loadAt, Instr.sureAddr] using k1, k2⟩
  · cases h

/-! Stores. -/
def layA : Array Value → Nat → List Value → Array Value
  | a, _, [] => a
  | a, o, v :: r => layA (a.setIfInBounds o v) (o + 1) r
theorem layA_toList : ∀ (vs : List Value) (a : Array Value) (o : Nat), (layA a o vs).toList = lay a.toList o vs
  | [], _, _ => rfl
  | v :: vs, a, o => by simp [layA, lay, layA_toList vs]
theorem setCells_heap (b : Nat) (el : TypeId) (fz : Nat × Nat) : ∀ (vs : List Value) (o : Nat) (w : World) (cs : Array Value), w.heap[b]? = some (.cells cs el fz) → (w.setCells b o vs).heap[b]? = some (.cells (layA cs o vs) el fz)
  | [], _, _, _, h => h
  | v :: vs, o, w, cs, h => by
    rw [World.setCells]
    refine setCells_heap b el fz vs (o + 1) _ (cs.setIfInBounds o v) ?_
    simp [World.setCell, Array.getElem?_modify, h]
theorem setCells_other (b n : Nat) (hn : n ≠ b) : ∀ (vs : List Value) (o : Nat) (w : World), (w.setCells b o vs).heap[n]? = w.heap[n]?
  | [], _, _ => rfl
  | v :: vs, o, w => by
    rw [World.setCells, setCells_other b n hn vs]
    simp [World.setCell, Array.getElem?_modify, Ne.symm hn]
theorem setCells_size (b : Nat) : ∀ (vs : List Value) (o : Nat) (w : World), (w.setCells b o vs).heap.size = w.heap.size
  | [], _, _ => rfl
  | v :: vs, o, w => by rw [World.setCells, setCells_size b vs]; simp
theorem setCells_beside (b : Nat) : ∀ (vs : List Value) (o : Nat) (w : World), Beside w (w.setCells b o vs)
  | [], _, _ => Beside.refl _
  | v :: vs, o, w => by
    rw [World.setCells]
    exact Beside.trans (b := w.setCell ⟨b, o, none⟩ v) ⟨rfl, rfl, rfl⟩ (setCells_beside b vs (o + 1) _)
def Cx.wrote (x : Cx) (id : Nat) (b : Blk) (off : Nat) (d : D) (us : List Value) : Cx :=
  { P := x.P, w := x.w.setCells (x.ρ id) off us, ρ := x.ρ, h := x.h.set id { b with d := d }, av := x.av }
theorem wrote_get {x : Cx} {id : Nat} {b b' : Blk} (hb : x.h[id]? = some b) (j : Nat) : (x.h.set id b')[j]? = if j = id then some b' else x.h[j]? := by
  rw [List.getElem?_set]
  have hlt : id < x.h.length := (List.getElem?_eq_some_iff.1 hb).1
  by_cases hj : id = j
  · subst hj; simp [hlt]
  · simp [hj, Ne.symm hj]
theorem wrote_to {x : Cx} (hx : HR x) {id : Nat} {b : Blk} (hb : x.h[id]? = some b) (hg : 0 < b.gen) (hw : b.wr = true) {off : Nat} {vs : List V} {us : List Value} (hv : VRs x vs us) (hlen : off + vs.length ≤ b.cs.length) {d : D} (hd : d.toV = lay b.cs off vs) : To x (x.wrote id b off d us) := by
  obtain ⟨cs, lo, hi, h1, h2, h3⟩ := hx.blk id b hb hg
  have hheap := setCells_heap (x.ρ id) b.elem (lo, hi) us off x.w cs h1
  have hsz : (layA cs off us).size = cs.size := by rw [← Array.length_toList, layA_toList, lay_length]; simp
  have hne : ∀ j b', x.h[j]? = some b' → 0 < b'.gen → j ≠ id → x.ρ j ≠ x.ρ id := fun j b' hj hg' hji e => hji (hx.inj j id b' b hj hg' hb hg e)
  have hown : x.own (x.ρ id) := ⟨id, b, hb, hg, hw, rfl⟩
  have howns : ∀ n, (x.wrote id b off d us).own n → x.own n := by
    rintro n ⟨j, b', k1, k2, k3, k4⟩
    simp only [Cx.wrote, wrote_get hb] at k1 k4
    by_cases h : j = id
    · subst h; exact ⟨j, b, hb, hg, hw, k4⟩
    · rw [if_neg h] at k1; exact ⟨j, b', k1, k2, k3, k4⟩
  have ext : Ext x (x.wrote id b off d us) := by
    refine ⟨⟨rfl, fun j b' hj => ?_, fun n hn ho => ⟨ho, setCells_other _ _ (by rintro rfl; exact ho (hx.ownav _ hown)) _ _ _⟩, by simp [Cx.wrote, setCells_size]⟩, fun n hn ho => ⟨fun h => ho (howns n h), setCells_other _ _ (by rintro rfl; exact ho hown) _ _ _⟩, fun _ _ ha _ => ha⟩
    simp only [Cx.wrote, wrote_get hb]
    by_cases h : j = id
    · subst h
      rw [hb] at hj; injection hj with hj; subst hj
      refine ⟨_, if_pos rfl, Nat.le_refl _, fun _ _ => ⟨trivial, ?_, ?_⟩⟩
      · simp [World.shape?, h1, hheap, hsz]
      · show b.d.toV.length ≤ d.toV.length
        rw [hd, lay_length]; exact Nat.le_refl _
    · refine ⟨b', by rw [if_neg h]; exact hj, Nat.le_refl _, fun _ h0 => ⟨trivial, ?_, Nat.le_refl _⟩⟩
      unfold World.shape?
      rw [setCells_other _ _ (hne j b' hj h0 h)]
  refine ⟨ext, ⟨fun j b' hj hg' => ?_, fun i j b1 b2 hi hg1 hj hg2 hρ => ?_, fun n hn => hx.ownav n (howns n hn), fun n hn => by simp only [Cx.wrote, setCells_size]; exact hx.avlt n hn, fun j b' hj hg' => ?_⟩, setCells_beside _ _ _ _⟩
  · have hj' := hj
    simp only [Cx.wrote, wrote_get hb] at hj'
    by_cases h : j = id
    · subst h
      rw [if_pos rfl] at hj'; injection hj' with hj'; subst hj'
      refine ⟨layA cs off us, lo, hi, hheap, by rw [hsz]; exact h2, ?_⟩
      show VRs (x.wrote j b off d us) d.toV ((layA cs off us).toList.take d.toV.length)
      rw [layA_toList, hd, lay_length]
      have hl3 := h3.length
      have hu := hv.length
      rw [lay_take _ _ _ _ (by omega)]
      exact (VRs.lay_ off hv h3).mono ext.mono
    · rw [if_neg h] at hj'
      obtain ⟨c, lo', hi', k1, k2, k3⟩ := hx.blk j b' hj' hg'
      exact ⟨c, lo', hi', by
        show (x.w.setCells (x.ρ id) off us).heap[x.ρ j]? = _
        rw [setCells_other _ _ (hne j b' hj' hg' h)]; exact k1, k2, k3.mono ext.mono⟩
  · simp only [Cx.wrote, wrote_get hb] at hi hj
    have fi : ∃ c, x.h[i]? = some c ∧ 0 < c.gen := by
      by_cases h : i = id
      · subst h; exact ⟨b, hb, hg⟩
      · rw [if_neg h] at hi; exact ⟨b1, hi, hg1⟩
    have fj : ∃ c, x.h[j]? = some c ∧ 0 < c.gen := by
      by_cases h : j = id
      · subst h; exact ⟨b, hb, hg⟩
      · rw [if_neg h] at hj; exact ⟨b2, hj, hg2⟩
    obtain ⟨c1, p1, p2⟩ := fi
    obtain ⟨c2, q1, q2⟩ := fj
    exact hx.inj i j c1 c2 p1 p2 q1 q2 hρ
  · simp only [Cx.wrote, wrote_get hb] at hj
    by_cases h : j = id
    · rw [if_pos h] at hj; injection hj with hj; subst hj; exact .inl hw
    · rw [if_neg h] at hj; exact hx.safe j b' hj hg'
def vlayD (d : D) (off : Nat) (vs : List V) : Option D :=
  match d with
  | .list cs => if off + vs.length ≤ cs.length then some (.list (lay cs off vs)) else none
  | .ints k xs => match vs with
    | [.i k' n] => if k = k' ∧ off < xs.length then some (.ints k (xs.set off n)) else none
    | _ => none
theorem vlayD_toV {d d' : D} {off : Nat} {vs : List V} (h : vlayD d off vs = some d') : d'.toV = lay d.toV off vs ∧ off + vs.length ≤ d.toV.length := by
  unfold vlayD at h
  split at h
  · split at h
    · rename_i hl; injection h with h; subst h; exact ⟨rfl, hl⟩
    · cases h
  · split at h
    · rename_i k xs k' n
      split at h
      · rename_i hc
        obtain ⟨rfl, hc⟩ := hc
        injection h with h; subst h
        refine ⟨?_, by simp [D.toV]; omega⟩
        simp [D.toV, lay, List.map_set]
      · cases h
    · cases h
def vstoreAt (P : Program) (h : Heap) (t : TypeId) (a c : V) : Option Heap :=
  match a with
  | .ref id gen off => match blkOf h id gen, vcells c, szOf P t with
    | some b, some vs, some n => if vs.length = n ∧ vs.all okc = true ∧ b.wr = true then (match vlayD b.d off vs with
      | some d => some (h.set id { b with d := d })
      | none => none) else none
    | _, _, _ => none
  | _ => none
theorem vstoreAt_ok {x : Cx} (hx : HR x) {t : TypeId} {a c : V} {v u : Value} {h' : Heap} (h : vstoreAt x.P x.h t a c = some h') (ha : VR x a v) (hc : VR x c u) :
    Does x (do Instr.storeAt t v u; pure .skip) .u h' := by
  unfold vstoreAt at h
  split at h
  · rename_i id gen off
    split at h
    · rename_i b vs n hb hvs hn
      obtain ⟨h1, h2, h3, h4⟩ := blkOf_spec hb
      split at h
      · rename_i hcond
        obtain ⟨c1, c3, c4⟩ := hcond
        split at h
        case h_2 => cases h
        rename_i d hd
        simp only [Option.some.injEq] at h; subst h
        obtain ⟨hd1, c2⟩ := vlayD_toV hd
        have c2 : off + vs.length ≤ b.cs.length := c2
        have hg : 0 < b.gen := by omega
        have hcs := VR_cells hc hvs
        obtain ⟨cs, lo, hi, k1, k2, k3⟩ := hx.blk id b h1 hg
        have hl3 := k3.length
        rw [List.length_take] at hl3
        simp only [Array.length_toList] at hl3
        have hlu := hcs.length
        refine ⟨.skip, x.wrote id b off d u.cells.toList, ?_, wrote_to hx h1 hg c4 hcs c2 hd1, rfl, rfl, .inr ⟨rfl, rfl⟩⟩
        rw [cur_ref h4 ha]
        have hst := run_storeCells_cells (P := x.P) (x.ρ id) off u.cells.toList 0 x.w (fun j hj => by
            have hj' : off + 0 + j < cs.size := by omega
            simp only [World.cell?, k1, Option.isSome_none, Bool.false_eq_true, if_false]
            rw [Array.getElem?_eq_getElem hj']; rfl) (fun j hj => by
            simp only [World.frozen?, k1]
            have hj' : off + 0 + j < cs.size := by omega
            rcases k2 with k2 | k2
            · simp; omega
            · simp; omega) (fun w hw => by
            obtain ⟨j, hj, rfl⟩ := List.getElem_of_mem hw
            have hjv : j < vs.length := by omega
            obtain ⟨z, hz, hr⟩ := hcs.get j vs[j] (List.getElem?_eq_getElem hjv)
            rw [List.getElem?_eq_getElem hj] at hz
            injection hz with hz
            rw [hz]
            have := okc_one hr (by
              have := List.all_eq_true.1 c3 vs[j] (List.getElem_mem hjv)
              exact this)
            revert this; cases z <;> simp [one, Value.oneCell'])
        have hsz : u.cells.size = n := by rw [← Array.length_toList, hlu]; exact c1
        simp [Instr.storeAt, Instr.sureAddr, storeVar, run_szOf hn, hsz, Cx.wrote]
        rw [Nat.add_zero] at hst
        rw [hst]; rfl
      · cases h
    · cases h
  · cases h
end Go.Proofs.Ytcpicekmnkjceaa.VI
