import Derived.Test.YtkmkhcmfpbffjaaGreatTa408c171
import Derived.MapKept
namespace Go.Proofs.YtkmkhcmfpbffjaaGreat.VI
set_option linter.unusedVariables false
set_option linter.unusedSimpArgs false
def vapx (P : Program) (h : Heap) (sz : Nat) (zs : List V) (xt : TypeId) (x : V) : Option (Nat × D) :=
  match P.underlying xt with
  | some (.int _) => match x with
    | .i _ n => if 0 ≤ n ∧ n ≤ 1073741824 then some (n.toNat, zD zs n.toNat) else none
    | _ => none
  | some _ => vsrc h sz x
  | none => none
def vbase (h : Heap) (id sz : Nat) (elem : TypeId) : V → Option (Nat × Nat × Nat × D)
  | .nils => if blank h id = true then some (id, 1, 0, .list []) else none
  | .own bid g off n s => match off with
    | 0 => match blkOf h bid g with
      | some b => if s = sz ∧ b.wr = true ∧ b.elem = elem then some (bid, g + 1, n, b.d) else none
      | none => none
    | _ => none
  | _ => none
def leaves (P : Program) : Nat → TypeId → List TypeId
  | 0, t => [t]
  | d + 1, t => match P.underlying t with
    | some (.struct fs) => (fs.toList.map fun f => leaves P d f.type).flatten
    | some (.array n e) => (List.replicate n (leaves P d e)).flatten
    | _ => [t]
def nilc (P : Program) (t : TypeId) : V → V
  | .nils => match P.underlying t with
    | some (.slice el) => match P.underlying el with
      | some (.int k) => .si 0 k []
      | _ => .nils
    | _ => .nils
  | c => c
def nilL (P : Program) (all : List TypeId) : List TypeId → List V → List V
  | _, [] => []
  | [], c :: cs => match all with
    | [] => c :: nilL P all [] cs
    | t :: ts => nilc P t c :: nilL P all ts cs
  | t :: ts, c :: cs => nilc P t c :: nilL P all ts cs
def nilD (P : Program) (t : TypeId) : D → D
  | .list cs => .list (nilL P (leaves P 8 t) (leaves P 8 t) cs)
  | d => d
theorem nilc_vr {x : Cx} {P : Program} {t : TypeId} {c : V} {v : Value} (h : VR x c v) : VR x (nilc P t c) v := by
  unfold nilc
  split
  · split
    · split
      · obtain ⟨a, rfl⟩ := h
        exact ⟨a, 0, rfl, Nat.le_refl _, .inl rfl⟩
      · exact h
    · exact h
  · exact h
theorem nilL_vrs {x : Cx} {P : Program} (all : List TypeId) : ∀ (ts : List TypeId) (cs : List V) (l : List Value), VRs x cs l → VRs x (nilL P all ts cs) l
  | ts, [], l, h => by cases ts <;> exact h
  | [], c :: cs, _, h => by
    obtain ⟨v, vs, rfl, h1, h2⟩ := h
    unfold nilL
    split
    · exact ⟨v, vs, rfl, h1, nilL_vrs _ [] cs vs h2⟩
    · exact ⟨v, vs, rfl, nilc_vr h1, nilL_vrs _ _ cs vs h2⟩
  | t :: ts, c :: cs, _, h => by
    obtain ⟨v, vs, rfl, h1, h2⟩ := h
    exact ⟨v, vs, rfl, nilc_vr h1, nilL_vrs all ts cs vs h2⟩
theorem nilD_vrs {x : Cx} {P : Program} {t : TypeId} {d : D} {l : List Value} (h : VRs x d.toV l) : VRs x (nilD P t d).toV l := by
  cases d with
  | list cs => exact nilL_vrs _ _ cs l h
  | _ => exact h
theorem nilD_good {x : Cx} {P : Program} {t : TypeId} {d : D} {l : List Value} (h : good x d l) : good x (nilD P t d) l := by
  cases d with
  | list cs => exact trivial
  | _ => exact h
def vappend (P : Program) (h : Heap) (id : Nat) (st xt : TypeId) (s x : V) : Option (V × Heap) :=
  match P.underlying st with
  | some (.slice elem) => match szOf P elem, bytesOf P elem, zcells P elem with
    | some (z + 1), some (b + 1), some zs => if zs.length = z + 1 ∧ b < 65536 then (match vbase h id (z + 1) elem s, vapx P h (z + 1) zs xt x with
      | some (bid, g, n, d1), some (m, d2) => match catD (z + 1) n d1 m (nilD P elem d2) with
        | some d => if n + m ≤ 1073741824 then some (.own bid g 0 (n + m) (z + 1), newg h bid g elem d) else none
        | none => none
      | _, _ => none) else none
    | _, _, _ => none
  | _ => none
theorem zeroCells_toV {x : Cx} {zs : List V} {z : Value} (h : VRs x zs z.cells.toList) (hz : 0 < zs.length) (n : Nat) : VRs x (zD zs n).toV (if n * zs.length = 0 then #[] else Builtin.zeroCells z.cells n).toList := by
  have h1 := zD_ok h hz n
  by_cases h0 : n * zs.length = 0
  · rw [if_pos h0]
    have := h1.length
    rw [h0] at this
    simp at this
    have e : (zD zs n).toV = [] := by
      apply List.eq_nil_of_length_eq_zero; omega
    rw [e]; rfl
  · rw [if_neg h0]
    have hl := h.length
    have e : (Builtin.zeroCells z.cells n) = (Array.range (n * zs.length)).map (z.cells[· % z.cells.size]!) := by
      unfold Builtin.zeroCells
      rw [show z.cells.size = zs.length by rw [← hl]; simp]
    rw [e]; exact h1
theorem zeroCells_one {z : Value} (h : ∀ v ∈ z.cells.toList, one v = true) (n : Nat) (hz : 0 < z.cells.size) : ∀ v ∈ (Builtin.zeroCells z.cells n).toList, one v = true := by
  intro v hv
  simp only [Builtin.zeroCells, Array.toList_map, Array.toList_range, List.mem_map] at hv
  obtain ⟨j, _, rfl⟩ := hv
  have hj : j % z.cells.size < z.cells.size := Nat.mod_lt _ hz
  apply h
  rw [getElem!_pos z.cells _ hj]
  exact Array.getElem_mem_toList hj
structure App (P : Program) (w : World) (st xt ty elem : TypeId) (z : Value) (sz m : Nat) (u : Value) (us : List Value) : Prop where
  room : ∀ a n cap, n + m ≤ cap → (Builtin.append_ #[st, xt] ty #[.slice a n cap, u]).run P w = (match a with | some a => (storeCells (a.add (n * sz)) us).run P w | none => .ok () w).andThen fun _ w' => .ok (.slice a (n + m) cap) w'
  grow : ∀ a n cap old, ¬ n + m ≤ cap → n + m ≤ 1073741824 → (∀ w' : World, w'.heap = w.heap → (Builtin.firstCells sz n (.slice a n cap)).run P w' = .ok (List.toArray old) w') →
    ∃ c, n + m ≤ c ∧ (Builtin.append_ #[st, xt] ty #[.slice a n cap, u]).run P w = .ok (.slice (some ⟨w.heap.size, 0, none⟩) (n + m) c) ({ w with drawn := w.drawn + 1 }.alloc (.cells ((old ++ us).toArray ++ Builtin.zeroCells z.cells (c - (n + m))) elem))
theorem vapx_ok {x : Cx} (hx : HR x) {st xt ty elem : TypeId} {zs : List V} {z : Value} {i : TypeInfo} {sz m : Nat} {c : V} {d : D} {u : Value} (hu : x.P.underlying st = some (.slice elem)) (hi : x.P.info? elem = some i) (hs : i.size = sz) (hiz : i.zero = some z) (h0 : 0 < i.bytes) (hby : i.bytes ≤ 65536)
    (hz1 : VRs x zs z.cells.toList) (hzb : VRs x.bare zs z.cells.toList) (hz2 : ∀ v ∈ z.cells.toList, one v = true) (hzl : zs.length = sz) (hz : 0 < sz) (h : vapx x.P x.h sz zs xt c = some (m, d)) (hv : VR x c u) :
    ∃ us : List Value, VRs x d.toV us ∧ us.length = m * sz ∧ (∀ u ∈ us, one u = true) ∧ App x.P x.w st xt ty elem z sz m u us ∧ good x d us := by
  have hzsz : z.cells.size = sz := by have := hz1.length; simp at this; omega
  unfold vapx at h
  split at h
  · rename_i k' hxt
    split at h
    · rename_i k n
      split at h
      · rename_i hn
        simp only [Option.some.injEq, Prod.mk.injEq] at h
        obtain ⟨rfl, rfl⟩ := h
        simp only [VR] at hv; subst hv
        have hv := zeroCells_toV hz1 (by omega) n.toNat
        rw [hzl] at hv
        refine ⟨(if n.toNat * sz = 0 then #[] else Builtin.zeroCells z.cells n.toNat : Array Value).toList, hv, ?_, ?_, ⟨fun a n' cap hr => ?_, fun a n' cap old hr hnm ho => ?_⟩, ?_⟩
        · split
          · rename_i h00; rw [h00]; rfl
          · simp [Builtin.zeroCells, hzsz]
        · split
          · simp
          · exact zeroCells_one hz2 _ (by omega)
        · exact app_room_z hu hxt hi hs hiz hn hby rfl (by simp) hr
        · exact app_grow_z hu hxt hi hs hiz hn rfl (by simp) hr hnm hby h0 ho
        · have hvb := zeroCells_toV hzb (by omega) n.toNat
          rw [hzl] at hvb
          unfold zD at hvb ⊢
          split at hvb
          · trivial
          · exact ⟨fun _ _ => rfl, hvb⟩
      · cases h
    · cases h
  · rename_i dd hxt hnd
    obtain ⟨us, k1, k2, k3, ⟨k4, k5⟩, k6⟩ := vsrc_ok hx h hz hv
    have hd : isIntD dd = false := by
      cases dd with
      | int k => exact (hxt k rfl).elim
      | _ => rfl
    exact ⟨us, k1, k2, k3, ⟨fun a n cap hr => app_room hu hnd hd hi hs k4 (k5 _ rfl) hr, fun a n cap old hr hnm ho => app_grow hu hnd hd hi hs hiz k4 k5 hr hnm hby h0 ho⟩, k6⟩
  · cases h
theorem draw_ok {x : Cx} (hx : HR x) : To x { x with w := { x.w with drawn := x.w.drawn + 1 } } := by
  have mono : Mono x { x with w := { x.w with drawn := x.w.drawn + 1 } } := ⟨rfl, fun id b hb => ⟨b, hb, Nat.le_refl _, fun _ l => ⟨l.2, rfl, rfl, Nat.le_refl _⟩⟩, fun _ _ ha => ⟨ha, rfl⟩, Nat.le_refl _⟩
  refine ⟨⟨mono, fun _ _ ho => ⟨ho, rfl⟩, fun _ _ ha _ => ha⟩, ⟨fun id b hb hg hm => ?_, hx.mps, hx.inj, hx.ownav, hx.avlt, hx.safe⟩, ⟨rfl, rfl, rfl⟩⟩
  obtain ⟨cs, lo, hi, h1, h2, h3, h4, h5⟩ := hx.blk id b hb hg hm
  exact ⟨cs, lo, hi, h1, h2, h3.mono mono, h4, h5.mono mono⟩
theorem vappend_ok {x : Cx} (hx : HR x) {id : Nat} {st xt ty : TypeId} {s c r : V} {v u : Value} {h' : Heap} (h : vappend x.P x.h id st xt s c = some (r, h')) (hv : VR x s v) (hu : VR x c u) :
    ∃ z y, (Builtin.append_ #[st, xt] ty #[v, u]).run x.P x.w = .ok z y.w ∧ To x y ∧ y.P = x.P ∧ y.h = h' ∧ VR y r z := by
  unfold vappend at h
  split at h
  case h_2 => cases h
  rename_i elem hst
  split at h
  case h_2 => cases h
  rename_i zz b zs hs hb hz
  split at h
  case isFalse => cases h
  rename_i hc
  obtain ⟨c1, c2⟩ := hc
  split at h
  case h_2 => cases h
  rename_i bid g n d1 m d2 hbase hapx
  split at h
  case h_2 => cases h
  rename_i d hcat
  split at h
  case isFalse => cases h
  rename_i hnm
  simp only [Option.some.injEq, Prod.mk.injEq] at h
  obtain ⟨rfl, rfl⟩ := h
  obtain ⟨i, hi, hi1, hi2⟩ := info_of hs hb
  obtain ⟨z, hz1, hz2, hz3⟩ := zcells_ok hz
  have hiz : i.zero = some z := by
    unfold zcells at hz
    simp only [hi] at hz
    cases hzz : i.zero with
    | none => rw [hzz] at hz; cases hz
    | some z' =>
      have : (zeroValue elem).run x.P x.w = .ok z' x.w := by simp [zeroValue, typeInfo, hi, hzz]
      rw [this] at hz1
      injection hz1 with hz1; rw [hz1]
  have hzb : VRs x.bare zs z.cells.toList := by
    obtain ⟨z', q1, q2, _⟩ := zcells_ok (x := x.bare) hz
    have e : (zeroValue elem).run x.P x.w = .ok z' x.w := q1
    rw [hz1] at e; injection e with e; rw [e]; exact q2
  obtain ⟨us, k1, k2, k3, k4, k6⟩ := vapx_ok (ty := ty) hx hst hi hi1 hiz (by omega) (by omega) hz2 hzb hz3 c1 (by omega) hapx hu
  replace k1 := nilD_vrs (P := x.P) (t := elem) k1
  replace k6 := nilD_good (P := x.P) (t := elem) k6
  generalize nilD x.P elem d2 = d3 at hcat k1 k6
  have hd2 := k1.length
  have hzsz : z.cells.size = zz + 1 := by have := hz2.length; simp at this; omega
  have fresh : ∀ (a : Option Addr) (cap : Nat) (old : List Value), v = .slice a n cap → lw x.h bid g = true → ¬ n + m ≤ cap → VRs x (d1.toV.take (n * (zz + 1))) old → old.length = n * (zz + 1) → (∀ v ∈ old, one v = true) →
      (∀ w' : World, w'.heap = x.w.heap → (Builtin.firstCells (zz + 1) n v).run x.P w' = .ok old.toArray w') → n * (zz + 1) ≤ d1.toV.length → good x d (old ++ us) →
      ∃ z y, (Builtin.append_ #[st, xt] ty #[v, u]).run x.P x.w = .ok z y.w ∧ To x y ∧ y.P = x.P ∧ y.h = newg x.h bid g elem d ∧ VR y (.own bid g 0 (n + m) (zz + 1)) z := by
    intro a cap old hv hlw hr ho1 ho2 ho3 ho4 hd1 hgd
    subst hv
    obtain ⟨cp, hcp, hrun⟩ := k4.grow a n cap old hr hnm ho4
    have hdraw := draw_ok hx
    let l := (old ++ us) ++ (Builtin.zeroCells z.cells (cp - (n + m))).toList
    have hll : l.length = cp * (zz + 1) := by
      simp only [l, List.length_append, ho2, k2, Array.length_toList, Builtin.zeroCells, Array.size_map, Array.size_range, hzsz]
      rw [← Nat.add_mul, ← Nat.add_mul]; congr 1; omega
    have hl1 : ∀ v ∈ l, one v = true := by
      intro v hv
      rcases List.mem_append.1 hv with e | e
      · rcases List.mem_append.1 e with e | e
        · exact ho3 v e
        · exact k3 v e
      · exact zeroCells_one hz3 _ (by omega) v e
    have hdv := catD_toV hcat hd1 (by rw [← hd2, k2]) (by omega)
    have hdl : d.toV.length = (n + m) * (zz + 1) := by
      rw [hdv, List.length_append, List.length_take, Nat.min_eq_left hd1, ← hd2, k2, Nat.add_mul]
    have htk : l.take d.toV.length = old ++ us := by
      have : d.toV.length = (old ++ us).length := by rw [hdl, List.length_append, ho2, k2, Nat.add_mul]
      rw [this]; exact List.take_left' rfl
    have hvr : VRs x d.toV (l.take d.toV.length) := by
      rw [htk, hdv]
      exact ho1.append k1
    refine ⟨_, ({ x with w := { x.w with drawn := x.w.drawn + 1 } } : Cx).new bid g elem d l, ?_, hdraw.trans (new_to0 hdraw.hr hlw elem (hvr.mono hdraw.ext.mono) hl1 (by rw [htk]; exact hgd.mono hdraw.ext.mono)), rfl, rfl, new_own hlw elem d l (0, 0) (n + m) cp (zz + 1) hcp hll.symm ⟨by omega, .inr (by rw [hdl]; exact Nat.le_refl _)⟩⟩
    rw [hrun]
    simp only [Cx.new, l]
    congr 3
    apply Array.ext'; simp
  have none' : ∀ (a : Option Addr), v = .slice a 0 0 → n = 0 → m = 0 → lw x.h bid g = true → ∃ z y, (Builtin.append_ #[st, xt] ty #[v, u]).run x.P x.w = .ok z y.w ∧ To x y ∧ y.P = x.P ∧ y.h = newg x.h bid g elem d ∧ VR y (.own bid g 0 (n + m) (zz + 1)) z := by
    rintro a rfl rfl rfl hlw
    refine ⟨.slice a 0 0, x.phan bid g elem d, ?_, phan_to hx hlw elem d, rfl, rfl, phan_own hlw elem d a (by omega)⟩
    rw [k4.room a 0 0 (Nat.le_refl _)]
    have : us = [] := List.eq_nil_of_length_eq_zero (by simpa using k2)
    subst this
    cases a <;> rfl
  unfold vbase at hbase
  split at hbase
  · split at hbase
    · rename_i hbl
      simp only [Option.some.injEq, Prod.mk.injEq] at hbase
      obtain ⟨rfl, rfl, rfl, rfl⟩ := hbase
      obtain ⟨a, rfl⟩ := hv
      by_cases hm : m = 0
      · exact none' a rfl rfl hm (blank_lw hbl)
      · refine fresh a 0 [] rfl (blank_lw hbl) (by omega) (by simp [VRs]) (by simp) (fun v hv => by cases hv) (fun w' _ => ?_) (by simp) (by
          have := catD_good (l := []) hcat (by simp) (by rw [← hd2, k2]) (by omega) (.inl rfl) k6 k1
          simpa using this)
        cases a <;> simp [Builtin.firstCells, loadCells, loadCellsFrom]
    · cases hbase
  · rename_i bid' g' off n' s'
    split at hbase
    case h_2 => cases hbase
    split at hbase
    case h_2 => cases hbase
    rename_i b' hb'
    split at hbase
    case isFalse => cases hbase
    rename_i hcc
    obtain ⟨rfl, hwr, he⟩ := hcc
    simp only [Option.some.injEq, Prod.mk.injEq] at hbase
    obtain ⟨rfl, rfl, rfl, rfl⟩ := hbase
    obtain ⟨h1, h2, h3, h4⟩ := blkOf_spec hb'
    have hlw : lw x.h bid' (g' + 1) = true := by unfold lw; rw [h1]; simp; omega
    obtain ⟨_, bk, g1, _, g3⟩ := hv
    rw [h1] at g1; injection g1 with g1; subst g1
    obtain ⟨a, cap, rfl, q1, q2, q3⟩ := g3 h2.symm h3
    rcases q3 with ⟨rfl, rfl⟩ | ⟨hp, o, rfl, hlen, hr⟩
    · by_cases hm : m = 0
      · exact none' a rfl rfl hm hlw
      · refine fresh a 0 [] rfl hlw (by omega) (by simp [VRs]) (by simp) (fun v hv => by cases hv) (fun w' _ => ?_) (by simp) (by
          have := catD_good (l := []) hcat (by simp) (by rw [← hd2, k2]) (by omega) (.inl rfl) k6 k1
          simpa using this)
        cases a <;> simp [Builtin.firstCells, loadCells, loadCellsFrom]
    · have hr : o = 0 ∧ ∃ el tot, x.w.shape? (x.ρ bid') = some (el, tot) ∧ 0 + cap * (zz + 1) = tot := by
        rcases hr with ⟨_, h⟩ | h
        · omega
        · exact h
      obtain ⟨rfl, el, tot, hsh, htot⟩ := hr
      have hlv : x.lv bid' b' := ⟨by omega, hp⟩
      obtain ⟨cs, lo, hi', m1, m2, m3, m4, m5⟩ := hx.blk bid' b' h1 hlv (blkOf_mpq hb')
      have htot' : cs.size = cap * (zz + 1) := by
        unfold World.shape? at hsh
        rw [m1] at hsh
        simp only [Option.some.injEq, Prod.mk.injEq] at hsh
        omega
      have hnl : n' * (zz + 1) ≤ b'.cs.length := by
        rcases hlen with rfl | h
        · simp
        · omega
      have hm3 := m3.length
      rw [List.length_take] at hm3
      simp only [Array.length_toList] at hm3
      by_cases hroom : n' + m ≤ cap
      · -- in place
        have hrun := k4.room (some ⟨x.ρ bid', 0, none⟩) n' cap hroom
        have hfit : n' * (zz + 1) + us.length ≤ cs.size := by
          rw [k2, htot', ← Nat.add_mul]; exact Nat.mul_le_mul_right _ hroom
        have hst := run_storeCells_cells (P := x.P) (x.ρ bid') (n' * (zz + 1)) us 0 x.w (fun j hj => by
            have hj' : n' * (zz + 1) + 0 + j < cs.size := by omega
            simp only [World.cell?, m1, Option.isSome_none, Bool.false_eq_true, if_false]
            rw [Array.getElem?_eq_getElem hj']; rfl) (fun j hj => by
            simp only [World.frozen?, m1]
            have hj' : n' * (zz + 1) + 0 + j < cs.size := by omega
            rcases m2 with m2 | m2
            · simp; omega
            · simp; omega) (fun w hw => by
            have := k3 w hw
            revert this; cases w <;> simp [one, Value.oneCell'])
        rw [Nat.add_zero] at hst
        have hdv := catD_toV hcat hnl (by rw [← hd2, k2]) (by omega)
        have hdl : d.toV.length = n' * (zz + 1) + us.length := by
          rw [hdv, List.length_append, List.length_take, ← hd2]
          show min (n' * (zz + 1)) b'.cs.length + _ = _
          rw [Nat.min_eq_left hnl]
        have hlay : (lay cs.toList (n' * (zz + 1)) us).take d.toV.length = cs.toList.take (n' * (zz + 1)) ++ us := by
          have e : cs.toList = cs.toList.take (n' * (zz + 1)) ++ cs.toList.drop (n' * (zz + 1)) := (List.take_append_drop _ _).symm
          have el : (cs.toList.take (n' * (zz + 1))).length = n' * (zz + 1) := by simp; omega
          have := lay_app_right us (cs.toList.take (n' * (zz + 1))) (cs.toList.drop (n' * (zz + 1))) 0
          rw [el, ← e, Nat.add_zero] at this
          rw [this, hdl, List.take_append, el]
          rw [List.take_of_length_le (by rw [el]; omega), Nat.add_sub_cancel_left]
          congr 1
          apply List.ext_getElem?
          intro j
          rw [List.getElem?_take]
          have key : ∀ (vs l : List Value) (o : Nat), o + vs.length ≤ l.length → ∀ j, j < vs.length → (lay l o vs)[o + j]? = vs[j]? := by
            intro vs
            induction vs with
            | nil => intro l o _ j hj; simp at hj
            | cons v vs ih =>
              intro l o hl j hj
              simp only [lay, List.length_cons] at hl hj ⊢
              have before : ∀ (vs l : List Value) (o k : Nat), k < o → (lay l o vs)[k]? = l[k]? := by
                intro vs
                induction vs with
                | nil => intro l o k _; rfl
                | cons v vs ih =>
                  intro l o k hk
                  simp only [lay]
                  rw [ih _ (o + 1) k (by omega), List.getElem?_set_ne (by omega)]
              cases j with
              | zero =>
                rw [before _ _ _ _ (by omega), Nat.add_zero]
                show (l.set o v)[o]? = some v
                exact List.getElem?_set_self (by omega)
              | succ j =>
                have := ih (l.set o v) (o + 1) (by simp; omega) j (by omega)
                rw [show o + (j + 1) = o + 1 + j by omega, this]; rfl
          split
          · rename_i hj
            have := key us (cs.toList.drop (n' * (zz + 1))) 0 (by simp; omega) j hj
            rwa [Nat.zero_add] at this
          · rw [List.getElem?_eq_none (by omega)]
        have hdvr : VRs x d.toV ((lay cs.toList (n' * (zz + 1)) us).take d.toV.length) := by
          rw [hlay, hdv]
          refine VRs.append ?_ k1
          have := m3.take (n' * (zz + 1))
          rw [List.take_take] at this
          rwa [show min (n' * (zz + 1)) b'.cs.length = n' * (zz + 1) from Nat.min_eq_left hnl] at this
        have hto := grew_to hx h1 hlv (blkOf_mpq hb') hwr (by omega : b'.gen < g' + 1) k3 m1 hdvr (by
          rw [hlay]
          have := catD_good hcat hnl (by rw [← hd2, k2]) (by omega) (.inr m5) k6 k1
          rw [List.take_take, show min (n' * (zz + 1)) b'.cs.length = n' * (zz + 1) from Nat.min_eq_left hnl] at this
          exact this)
        rw [he] at hto
        refine ⟨_, x.grew bid' (g' + 1) elem (n' * (zz + 1)) us d, ?_, hto, rfl, rfl, rfl, ⟨g' + 1, elem, d, true⟩, by simp [Cx.grew, newg_get hlw], Nat.le_refl _, fun _ _ => ⟨some ⟨x.ρ bid', 0, none⟩, cap, rfl, hroom, by omega, .inr ⟨hp, 0, rfl, .inr ?_, .inr ⟨rfl, b'.elem, cs.size, ?_, by omega⟩⟩⟩⟩
        · rw [hrun]
          simp only [addr_add, Nat.zero_add, Cx.grew]
          rw [hst]; rfl
        · show 0 + (n' + m) * (zz + 1) ≤ d.toV.length
          rw [hdl, k2]
          have := Nat.add_mul n' m (zz + 1)
          show 0 + (n' + m) * (zz + 1) ≤ n' * (zz + 1) + m * (zz + 1)
          omega
        · have := setCells_heap (x.ρ bid') b'.elem (lo, hi') us (n' * (zz + 1)) x.w cs m1
          simp only [Cx.grew, World.shape?, this]
          have : (layA cs (n' * (zz + 1)) us).size = cs.size := by rw [← Array.length_toList, layA_toList, lay_length]; simp
          rw [this]
      · obtain ⟨old, p1, p2, p3, p4, p5⟩ := own_cells hx h1 hlv (blkOf_mpq hb') (off := 0) (m := n' * (zz + 1)) (by rw [Nat.zero_add]; exact hnl)
        simp only [List.drop_zero] at p1
        refine fresh _ cap old rfl hlw hroom p1 p2 p3 (fun w' hw' => ?_) hnl (by
          have e : old = (cs.toList.take b'.cs.length).take (n' * (zz + 1)) := by
            rw [List.take_take, show min (n' * (zz + 1)) b'.cs.length = n' * (zz + 1) from Nat.min_eq_left hnl]
            apply List.ext_getElem?
            intro j
            rw [List.getElem?_take]
            split
            · rename_i hj
              have hjo : j < old.length := by rw [p2]; exact hj
              have := p4 j old[j] (List.getElem?_eq_getElem hjo)
              simp only [World.cell?, m1, Nat.zero_add] at this
              rw [List.getElem?_eq_getElem hjo]
              simpa using this.symm
            · rw [List.getElem?_eq_none (by rw [p2]; omega)]
          rw [e]
          exact catD_good hcat hnl (by rw [← hd2, k2]) (by omega) (.inr m5) k6 k1)
        exact (rd_slice (cap := cap) p2 p4).2 w' hw'
  · cases hbase
def b8 (n : Int) : Int := ((n.toNat % 256 : Nat) : Int)
def isByteSl (P : Program) (t : TypeId) : Bool := match P.underlying t with
  | some (.slice e) => match P.underlying e with
    | some (.int .u8) => match szOf P e with
      | some 1 => true
      | _ => false
    | _ => false
  | _ => false
def toSelf (P : Program) (s d : TypeId) : Bool := Nat.beq s d && isByteSl P d
def vmark (h : Heap) (c : V) : Option V := match c with
  | .own id gen off n sz => match blkOf h id gen with
    | some b => match b.wr && Nat.blt 0 n with
      | true => some (.own id gen off n sz)
      | false => none
    | none => none
  | _ => none
theorem freeze_get (w : World) (k f n j : Nat) {cs : Array Value} {e : TypeId} {lo hi : Nat} (h : w.heap[k]? = some (.cells cs e (lo, hi))) (hn : 0 < n) : (w.freeze ⟨k, f, none⟩ n).heap[j]? = if j = k then some (.cells cs e (if lo == hi then (f, f + n) else (min lo f, max hi (f + n)))) else w.heap[j]? := by
  unfold World.freeze
  rw [if_neg (by omega)]
  simp only [Array.getElem?_modify]
  by_cases hj : j = k
  · subst hj; simp [h]
  · rw [if_neg (Ne.symm hj), if_neg hj]
theorem freeze_size (w : World) (a : Addr) (n : Nat) : (w.freeze a n).heap.size = w.heap.size := by
  unfold World.freeze
  split
  · rfl
  · simp
theorem vmark_ok {x : Cx} (hx : HR x) {s : TypeId} {c r : V} {v : Value} (h : vmark x.h c = some r) (hv : VR x c v) : ∃ a n cap, v = .slice (some a) n cap ∧ ∃ y, (markStringish a).run x.P x.w = .ok () y.w ∧ To x y ∧ y.P = x.P ∧ y.h = x.h ∧ VR y r v := by
  unfold vmark at h
  split at h
  case h_2 => cases h
  rename_i id gen off n sz
  split at h
  case h_2 => cases h
  rename_i b hb
  split at h
  case h_2 => cases h
  rename_i hw
  simp only [Option.some.injEq] at h; subst h
  simp only [Bool.and_eq_true] at hw
  obtain ⟨hw, hn⟩ := hw
  have hn : 0 < n := Nat.le_of_ble_eq_true hn
  obtain ⟨h1, h2, h3, h4⟩ := blkOf_spec hb
  have hv' := hv
  obtain ⟨_, bk, g1, _, g3⟩ := hv'
  rw [h1] at g1; injection g1 with g1; subst g1
  obtain ⟨a, cap, rfl, q1, q2, q3⟩ := g3 h2.symm h3
  rcases q3 with ⟨p1, _⟩ | ⟨hp, o, rfl, _, _⟩
  · omega
  have hl : x.lv id b := ⟨by omega, hp⟩
  obtain ⟨cs, lo, hi, k1, k2, k3, k4, k5⟩ := hx.blk id b h1 hl (blkOf_mpq hb)
  let y : Cx := { x with w := x.w.freeze ⟨x.ρ id, cs.size, none⟩ 1 }
  have hown : x.own (x.ρ id) := ⟨id, b, h1, hl, hw, rfl⟩
  have hget : ∀ j, y.w.heap[j]? = if j = x.ρ id then some (.cells cs b.elem (if lo == hi then (cs.size, cs.size + 1) else (min lo cs.size, max hi (cs.size + 1)))) else x.w.heap[j]? := fun j => freeze_get x.w (x.ρ id) cs.size 1 j k1 (by decide)
  have hsz : y.w.heap.size = x.w.heap.size := freeze_size _ _ _
  have hne : ∀ j, j ≠ x.ρ id → y.w.heap[j]? = x.w.heap[j]? := fun j hj => by rw [hget, if_neg hj]
  have hshape : ∀ j, y.w.shape? j = x.w.shape? j := fun j => by
    by_cases hj : j = x.ρ id
    · subst hj; unfold World.shape?; rw [hget, if_pos rfl, k1]
    · unfold World.shape?; rw [hne j hj]
  have hmono : Mono x y := ⟨rfl, fun j b hj => ⟨b, hj, Nat.le_refl _, fun _ l => ⟨l.2, rfl, hshape _, Nat.le_refl _⟩⟩, fun m hm ha => ⟨ha, hne m (by rintro rfl; exact ha (hx.ownav _ hown))⟩, by rw [hsz]; exact Nat.le_refl _⟩
  have hto : To x y := by
    refine ⟨⟨hmono, fun m hm ho => ⟨ho, hne m (by rintro rfl; exact ho hown)⟩, fun _ _ h _ => h⟩, ⟨fun j b' hj hl' hm' => ?_, fun j b' k es hj hl' hdm => ?_, hx.inj, hx.ownav, fun m hm => by rw [hsz]; exact hx.avlt m hm, hx.safe⟩, ⟨?_, ?_, ?_⟩⟩
    · by_cases hji : j = id
      · subst hji
        have hj : x.h[j]? = some b' := hj
        rw [h1] at hj; injection hj with hj; subst hj
        have hc := hget (x.ρ j)
        rw [if_pos rfl] at hc
        rcases hr : (if lo == hi then (cs.size, cs.size + 1) else (min lo cs.size, max hi (cs.size + 1))) with ⟨lo', hi'⟩
        refine ⟨cs, lo', hi', by rw [← hr]; exact hc, ?_, k3.mono hmono, k4, k5.mono hmono⟩
        split at hr
        · injection hr with e1 e2; exact .inr (by omega)
        · rename_i hlh
          injection hr with e1 e2
          refine .inr ?_
          have : ¬ lo = hi := by simpa using hlh
          have := k2.resolve_left this
          omega
      · obtain ⟨cs', lo', hi', e1, e2, e3, e4, e5⟩ := hx.blk j b' hj hl' hm'
        refine ⟨cs', lo', hi', ?_, e2, e3.mono hmono, e4, e5.mono hmono⟩
        show y.w.heap[x.ρ j]? = _
        rw [hne _ fun e => hji (hx.inj j id b' b hj hl' h1 hl e)]
        exact e1
    · by_cases hji : j = id
      · subst hji
        have hj : x.h[j]? = some b' := hj
        rw [h1] at hj; injection hj with hj; subst hj
        have := blkOf_mpq hb
        rw [hdm] at this
        cases this
      · exact (hx.mps j b' k es hj hl' hdm).of (hne _ fun e => hji (hx.inj j id b' b hj hl' h1 hl e))
    · show (x.w.freeze _ 1).os = _
      unfold World.freeze; rw [if_neg (by decide)]
    · show (x.w.freeze _ 1).tape = _
      unfold World.freeze; rw [if_neg (by decide)]
    · show (x.w.freeze _ 1).output = _
      unfold World.freeze; rw [if_neg (by decide)]
  refine ⟨_, n, cap, rfl, y, ?_, hto, rfl, rfl, hv.mono hmono⟩
  have hs : x.w.shape? (x.ρ id) = some (b.elem, cs.size) := by unfold World.shape?; rw [k1]
  simp only [markStringish, Sem.run_bind, shape, Sem.run, hs, Result.andThen_ok, freeze]
  rfl
def toStr (P : Program) (s d : TypeId) : Bool := isByteSl P s && (match P.underlying d with | some .string => true | _ => false)
def toBys (P : Program) (s d : TypeId) : Bool := isByteSl P d && (match P.underlying s with | some .string => true | _ => false)
def vstr (h : Heap) (c : V) : Option V := match c with
  | .s _ => none
  | .st _ => none
  | c => match vsrc h 1 c with
    | some (_, .ints .u8 ys) => some (.st (ys.map b8))
    | some (_, .list cs) => match asInts .u8 cs with
      | some ys => some (.st (ys.map b8))
      | none => none
    | _ => none
def vbys (h : Heap) (id : Nat) (e : TypeId) (c : V) : Option (V × Heap) := match blank h id with
  | true => match c with
    | .s a => some (.own id 1 0 a.size 1, newb h id e (.ints .u8 (bys a)))
    | .st xs => some (.own id 1 0 xs.length 1, newb h id e (.ints .u8 xs))
    | _ => none
  | false => none
theorem pushes (P : Program) : ∀ (ys : List Int) (s : ByteArray) (w : World), ∃ b : ByteArray, (forIn (m := Sem) (ys.map (Value.int .u8)).toArray s fun c s => match c with
      | .int .u8 n => pure (.yield (s.push (UInt8.ofNat n.toNat)))
      | _ => do
        stuck "bytesToString: byte expected"
        pure (.yield s)).run P w = .ok b w ∧ bys b = bys s ++ ys.map b8 := by
  intro ys
  induction ys with
  | nil => intro s w; exact ⟨s, by simp, by simp⟩
  | cons y ys ih =>
    intro s w
    obtain ⟨b, h1, h2⟩ := ih (s.push (UInt8.ofNat y.toNat)) w
    refine ⟨b, ?_, ?_⟩
    · simp only [List.forIn_toArray] at h1 ⊢
      simp only [List.map_cons, List.forIn_cons, Sem.run_bind, Sem.run_pure, Result.andThen_ok]
      exact h1
    · rw [h2]
      simp [bys, b8, ByteArray.push]
theorem vstr_ok {x : Cx} (hx : HR x) {c r : V} {v : Value} (h : vstr x.h c = some r) (hv : VR x c v) : ∃ z, (Conv.bytesToString v).run x.P x.w = .ok z x.w ∧ VR x r z := by
  have key : ∀ (m : Nat) (d : D) (ys : List Int), vsrc x.h 1 c = some (m, d) → d.toV = ys.map (V.i .u8) → r = .st (ys.map b8) → (∀ b, v ≠ .string b) → ∃ z, (Conv.bytesToString v).run x.P x.w = .ok z x.w ∧ VR x r z := by
    intro m d ys hs hd hr hns
    subst hr
    obtain ⟨us, k1, k2, k3, ⟨k4, k5⟩, _⟩ := vsrc_ok hx hs (by omega) hv
    rw [hd] at k1
    have hus := k1.ints
    subst hus
    simp only [List.length_map, Nat.mul_one] at k2
    subst k2
    have hf := k5 x.w rfl
    unfold Conv.bytesToString
    cases v with
    | slice a n cap =>
      have hl := k4 x.w
      simp only [Builtin.lenOf, Sem.run_pure, Result.ok.injEq, and_true] at hl
      subst hl
      cases a with
      | none =>
        simp only [Builtin.firstCells, Sem.run_pure, Result.ok.injEq, and_true] at hf
        have : ys = [] := by
          have := congrArg Array.size hf
          simp at this
          exact List.eq_nil_of_length_eq_zero (by simpa using this.symm)
        subst this
        exact ⟨_, rfl, .empty, rfl, rfl⟩
      | some a =>
        simp only [Builtin.firstCells, Nat.mul_one] at hf
        obtain ⟨b, h1, h2⟩ := pushes x.P ys ByteArray.empty x.w
        refine ⟨.string b, ?_, b, rfl, by have : bys ByteArray.empty = [] := rfl; rw [this] at h2; exact h2⟩
        simp only [Sem.run_bind, hf, Result.andThen_ok]
        exact (congrArg (fun r => Result.andThen r fun a w' => (pure (Value.string a) : Sem Value).run x.P w') h1).trans rfl
    | string b => exact absurd rfl (hns b)
    | _ => have := k4 x.w; simp [Builtin.lenOf, stuck, Sem.run] at this
  have hns : (∀ a, c ≠ .s a) → (∀ xs, c ≠ .st xs) → (vsrc x.h 1 c).isSome = true → ∀ b, v ≠ .string b := by
    intro n1 n2 hsome b hb
    subst hb
    cases c with
    | s a => exact n1 a rfl
    | st a => exact n2 a rfl
    | nils => obtain ⟨a, h⟩ := hv; cases h
    | si => obtain ⟨a, cap, h, _⟩ := hv; cases h
    | sl => obtain ⟨a, cap, h, _⟩ := hv; cases h
    | sr => obtain ⟨a, cap, h, _⟩ := hv; cases h
    | own id gen off n s =>
      simp only [vsrc] at hsome
      split at hsome
      · split at hsome
        · rename_i b' hb'
          obtain ⟨h1, h2, h3, h4⟩ := blkOf_spec hb'
          obtain ⟨a, cap, h, _⟩ := cur_own h4 hv
          cases h
        · cases hsome
      · cases hsome
    | _ => simp [vsrc] at hsome
  unfold vstr at h
  split at h
  · cases h
  · cases h
  · rename_i n1 n2
    split at h
    · rename_i m ys hs
      injection h with h
      exact key m _ ys hs rfl h.symm (hns (fun a e => n1 a e) (fun a e => n2 a e) (by rw [hs]; rfl))
    · rename_i m cs hs
      split at h
      · rename_i ys hy
        injection h with h
        exact key m _ ys hs (asInts_ok hy).symm h.symm (hns (fun a e => n1 a e) (fun a e => n2 a e) (by rw [hs]; rfl))
      · cases h
    · cases h
theorem freeze_alloc (w : World) (c : Array Value) (e : TypeId) (k : Nat) : (w.alloc (.cells c e)).freeze ⟨w.heap.size, k, none⟩ 1 = w.alloc (.cells c e (k, k + 1)) := by
  have e1 : ∀ o, w.alloc o = { w with heap := w.heap.push o } := fun _ => rfl
  rw [e1, e1]
  unfold World.freeze
  rw [if_neg (by omega : ¬ (1 = 0))]
  congr 1
  apply Array.ext_getElem?
  intro j
  rw [Array.getElem?_modify, Array.getElem?_push, Array.getElem?_push]
  by_cases hj : j = w.heap.size
  · subst hj; simp
  · simp only [if_neg hj, if_neg (Ne.symm hj)]
theorem vbys_ok {x : Cx} (hx : HR x) {id : Nat} {e : TypeId} {c r : V} {v : Value} {h' : Heap} (h : vbys x.h id e c = some (r, h')) (hv : VR x c v) : ∃ s z y, v = .string s ∧ (Conv.stringToBytes e s).run x.P x.w = .ok z y.w ∧ To x y ∧ y.P = x.P ∧ y.h = h' ∧ VR y r z := by
  unfold vbys at h
  split at h
  case h_2 => cases h
  rename_i hbl
  have key : ∀ a : ByteArray, v = .string a → r = .own id 1 0 a.size 1 → h' = newb x.h id e (.ints .u8 (bys a)) → ∃ s z y, v = .string s ∧ (Conv.stringToBytes e s).run x.P x.w = .ok z y.w ∧ To x y ∧ y.P = x.P ∧ y.h = h' ∧ VR y r z := by
    rintro a rfl rfl rfl
    have hdraw := draw_ok hx
    have hff : (Question.appendCap a.size 0 e).forced = false := rfl
    have hcut : a.size ≤ Question.cut (.appendCap a.size 0 e) (x.w.tape x.w.drawn (.appendCap a.size 0 e)) := by simp [Question.cut]
    refine ⟨a, ?_⟩
    generalize hq : Question.cut (.appendCap a.size 0 e) (x.w.tape x.w.drawn (.appendCap a.size 0 e)) = cp at hcut
    let l : List Value := (bys a).map (Value.int .u8) ++ List.replicate (cp - a.size) (.int .u8 0)
    have hbl' : (bys a).length = a.size := by simp only [bys, List.length_map, Array.length_toList]; rfl
    have hll : l.length = cp := by simp only [l, List.length_append, List.length_map, hbl', List.length_replicate]; omega
    have hl1 : ∀ v ∈ l, one v = true := by
      intro v hv
      rcases List.mem_append.1 hv with e | e
      · obtain ⟨_, _, rfl⟩ := List.mem_map.1 e; rfl
      · rw [List.eq_of_mem_replicate e]; rfl
    have hvr : VRs x (D.ints .u8 (bys a)).toV (l.take (D.ints .u8 (bys a)).toV.length) := by
      have e1 : (D.ints .u8 (bys a)).toV.length = ((bys a).map (Value.int .u8)).length := by simp [D.toV]
      rw [e1, List.take_left' rfl]
      exact VRs.of_ints x .u8 _
    refine ⟨.slice (some ⟨x.w.heap.size, 0, none⟩) a.size cp, { ({ x with w := { x.w with drawn := x.w.drawn + 1 } } : Cx).new id 1 e (.ints .u8 (bys a)) l with w := ({ x.w with drawn := x.w.drawn + 1 } : World).alloc (.cells l.toArray e (l.length, l.length + 1)) }, rfl, ?_,
      hdraw.trans (new_to hdraw.hr (blank_lw hbl) e (l.length, l.length + 1) (.inr (Nat.le_refl _)) (hvr.mono hdraw.ext.mono) hl1 trivial), rfl, rfl,
      new_own (blank_lw hbl) e _ l (l.length, l.length + 1) a.size cp 1 hcut (by rw [hll, Nat.mul_one]) ⟨by omega, .inr (by simp [D.toV, hbl'])⟩⟩
    have el : (a.data.map fun b => Value.int .u8 b.toNat) ++ Array.replicate (cp - a.size) (Value.int .u8 0) = l.toArray := by
      apply Array.ext'
      simp [l, bys]
    unfold Conv.stringToBytes
    simp only [Sem.run_bind, choose, Sem.run, hff, Bool.false_eq_true, if_false, hq, Result.andThen_ok]
    rw [show (a.data.map fun b => Value.int .u8 ↑b.toNat) ++ Array.replicate (cp - a.size) (Value.int .u8 0) = l.toArray from el]
    simp only [run_newRow, Result.andThen_ok, markStringish, Sem.run_bind, shape, Sem.run, World.shape?, heap_alloc_new']
    simp only [freeze, Sem.run, Result.andThen_ok, List.size_toArray, freeze_alloc]
    rfl
  split at h
  · rename_i a
    simp only [Option.some.injEq, Prod.mk.injEq] at h
    obtain ⟨rfl, rfl⟩ := h
    exact key a hv rfl rfl
  · rename_i xs
    simp only [Option.some.injEq, Prod.mk.injEq] at h
    obtain ⟨rfl, rfl⟩ := h
    obtain ⟨b, rfl, hb⟩ := hv
    subst hb
    exact key b rfl (by simp only [List.length_map, Array.length_toList]; rfl) rfl
  · cases h
theorem newm_to {x : Cx} (hx : HR x) {id g : Nat} (hb : lw x.h id g = true) (e : TypeId) (k0 : IntKind) : To x { x.new id g e (.bm k0 []) [] with w := x.w.alloc (.map #[] 0) } := by
  have he0 := new_ext hx hb e (.bm k0 []) []
  have hheap : ∀ n, n < x.w.heap.size → (x.w.alloc (.map #[] 0)).heap[n]? = x.w.heap[n]? := fun n hn => heap_alloc_lt _ _ _ hn
  have hsz : (x.w.alloc (.map #[] 0)).heap.size = x.w.heap.size + 1 := by
    rw [show (x.w.alloc (.map #[] 0)).heap = x.w.heap.push _ from rfl]; simp
  have he : Ext x { x.new id g e (.bm k0 []) [] with w := x.w.alloc (.map #[] 0) } := by
    refine ⟨⟨rfl, fun j b hj => ?_, fun n hn ho => ⟨(he0.mono.blocks n hn ho).1, hheap n hn⟩, by show _ ≤ (x.w.alloc (.map #[] 0)).heap.size; rw [hsz]; omega⟩, fun n hn ho => ⟨(he0.heap n hn ho).1, hheap n hn⟩, fun n hn ha ho => he0.keep n hn ha ho⟩
    obtain ⟨b', k1, k2, k3⟩ := he0.mono.gens j b hj
    refine ⟨b', k1, k2, fun q1 q2 => ?_⟩
    obtain ⟨p0, p1, p2, p3⟩ := k3 q1 q2
    refine ⟨p0, p1, ?_, p3⟩
    have p1' : (x.new id g e (.bm k0 []) []).ρ j = x.ρ j := p1
    show (x.w.alloc (.map #[] 0)).shape? ((x.new id g e (.bm k0 []) []).ρ j) = _
    rw [p1']
    exact shape_alloc _ _ _ (hx.lt hj q2)
  have lvn : ∀ j b, j ≠ id → Cx.lv { x.new id g e (.bm k0 []) [] with w := x.w.alloc (.map #[] 0) } j b → x.lv j b := fun j b h k => (new_lv (l := ([] : List Value)) (e := e) (d := .bm k0 []) (g := g) h).1 k
  refine ⟨he, ⟨fun j b hj hg hm => ?_, fun j b k' es hj hg hd => ?_, fun i j b b' hi hg hj hg' hρ => ?_, fun n hn => ?_, fun n hn => ?_, fun j b hj hg => ?_⟩, ⟨rfl, rfl, rfl⟩⟩
  · have hg0 := lvn j b
    simp only [Cx.new, newg_get hb] at hj ⊢
    by_cases h : j = id
    · rw [if_pos h] at hj
      injection hj with hj; subst hj
      cases hm
    · rw [if_neg h] at hj ⊢
      obtain ⟨c, lo, hi, h1, h2, h3, h4, h5⟩ := hx.blk j b hj (hg0 h hg) hm
      exact ⟨c, lo, hi, by rw [heap_alloc_lt _ _ _ (hx.lt hj (hg0 h hg))]; exact h1, h2, h3.mono he.mono, h4, h5.mono he.mono⟩
  · have hg0 := lvn j b
    simp only [Cx.new, newg_get hb] at hj ⊢
    by_cases h : j = id
    · rw [if_pos h] at hj ⊢
      injection hj with hj; subst hj
      injection hd with e1 e2; subst e1 e2
      exact ⟨#[], 0, heap_alloc_new' _ _, rfl⟩
    · rw [if_neg h] at hj ⊢
      exact (hx.mps j b k' es hj (hg0 h hg) hd).of (heap_alloc_lt _ _ _ (hx.lt hj (hg0 h hg)))
  · have g1 := lvn i b
    have g2 := lvn j b'
    simp only [Cx.new, newg_get hb] at hi hj hρ
    by_cases h : i = id <;> by_cases k : j = id
    · rw [h, k]
    · rw [if_pos h, if_neg k] at hρ
      rw [if_neg k] at hj
      have := hx.lt hj (g2 k hg'); omega
    · rw [if_neg h, if_pos k] at hρ
      rw [if_neg h] at hi
      have := hx.lt hi (g1 h hg); omega
    · rw [if_neg h] at hi hρ
      rw [if_neg k] at hj hρ
      exact hx.inj i j b b' hi (g1 h hg) hj (g2 k hg') hρ
  · obtain ⟨j, b, h1, h2, h3, h4⟩ := hn
    have g2 := lvn j b
    simp only [Cx.new, newg_get hb] at h1 h4 ⊢
    by_cases h : j = id
    · rw [if_pos h] at h4; exact .inr h4.symm
    · rw [if_neg h] at h1 h4
      exact .inl (hx.ownav n ⟨j, b, h1, g2 h h2, h3, h4⟩)
  · show n < (x.w.alloc (.map #[] 0)).heap.size
    rw [hsz]
    rcases hn with hn | hn
    · have := hx.avlt n hn; omega
    · omega
  · have g2 := lvn j b
    simp only [Cx.new, newg_get hb] at hj ⊢
    by_cases h : j = id
    · rw [if_pos h] at hj; injection hj with hj; subst hj; exact .inl rfl
    · rw [if_neg h] at hj ⊢
      rcases hx.safe j b hj (g2 h hg) with p | p
      · exact .inl p
      · refine .inr (fun q => ?_)
        rcases q with q | q
        · exact p q
        · have := hx.lt hj (g2 h hg); omega
theorem new_mref {x : Cx} {id : Nat} (hb : blank x.h id = true) (e : TypeId) (d : D) (l : List Value) (w : World) : VR { x.new id 1 e d l with w := w } (.mref id 1) (.map (some x.w.heap.size)) :=
  ⟨rfl, ⟨1, e, d, true⟩, by simp [Cx.new, newg_get (blank_lw hb)], by simp, fun _ _ => by simp [Cx.new]⟩
def mapOf (h : Heap) : V → Option (Nat × Blk × IntKind × List (Bool × Int))
  | .mref id gen => match h[id]? with
    | some b => match Nat.beq b.gen gen && Nat.blt 0 gen with
      | true => match b.d with
        | .bm k es => some (id, b, k, es)
        | _ => none
      | false => none
    | none => none
  | _ => none
theorem mapOf_ok {x : Cx} (hx : HR x) {c : V} {v : Value} {id : Nat} {b : Blk} {k : IntKind} {es : List (Bool × Int)} (h : mapOf x.h c = some (id, b, k, es)) (hv : VR x c v) :
    v = .map (some (x.ρ id)) ∧ x.h[id]? = some b ∧ x.lv id b ∧ b.d = .bm k es ∧ MapAt x.w (x.ρ id) k es := by
  unfold mapOf at h
  split at h
  case h_2 => cases h
  rename_i id' gen
  split at h
  case h_2 => cases h
  rename_i b' hb
  split at h
  case h_2 => cases h
  rename_i hg
  split at h
  case h_2 => cases h
  rename_i k' es' hd
  simp only [Option.some.injEq, Prod.mk.injEq] at h
  obtain ⟨rfl, rfl, rfl, rfl⟩ := h
  simp only [Bool.and_eq_true] at hg
  have g1 := Nat.eq_of_beq_eq_true hg.1
  have g2 : 0 < gen := Nat.le_of_ble_eq_true hg.2
  obtain ⟨_, bk, q1, _, q3⟩ := hv
  rw [hb] at q1; injection q1 with q1; subst q1
  obtain ⟨p1, p2⟩ := q3 g1.symm g2
  have hlv : x.lv id' b' := ⟨by omega, p1⟩
  exact ⟨p2, hb, hlv, hd, hx.mps id' b' k' es' hb hlv hd⟩
def keyBool (P : Program) (t : TypeId) : Option IntKind := match P.underlying t with
  | some (.map kt et) => match P.underlying kt with
    | some .bool => match P.underlying et with
      | some (.int k) => some k
      | _ => none
    | _ => none
  | _ => none
theorem keyBool_ok {P : Program} {t : TypeId} {k : IntKind} (h : keyBool P t = some k) : ∃ kt et, P.underlying t = some (.map kt et) ∧ P.underlying kt = some .bool ∧ P.underlying et = some (.int k) := by
  unfold keyBool at h
  split at h
  case h_2 => cases h
  rename_i kt et ht
  split at h
  case h_2 => cases h
  rename_i hk
  split at h
  case h_2 => cases h
  rename_i k' he
  injection h with h; subst h
  exact ⟨kt, et, ht, hk, he⟩
def vnewm (P : Program) (h : Heap) (id : Nat) (t : TypeId) : Option (V × Heap) := match blank h id with
  | true => match keyBool P t with
    | some k => some (.mref id 1, newb h id t (.bm k []))
    | none => none
  | false => none
theorem vnewm_ok {x : Cx} (hx : HR x) {id : Nat} {t : TypeId} {r : V} {h' : Heap} (h : vnewm x.P x.h id t = some (r, h')) : Does x (do pure (.value (← Instr.makeMap t none))) r h' := by
  unfold vnewm at h
  split at h
  case h_2 => cases h
  rename_i hb
  split at h
  case h_2 => cases h
  rename_i k hk
  simp only [Option.some.injEq, Prod.mk.injEq] at h
  obtain ⟨rfl, rfl⟩ := h
  refine ⟨.value (.map (some x.w.heap.size)), { x.new id 1 t (.bm k []) [] with w := x.w.alloc (.map #[] 0) }, ?_, newm_to hx (blank_lw hb) t k, rfl, rfl, .inl ⟨_, rfl, new_mref hb t _ _ _⟩⟩
  have : (Instr.makeMap t none).run x.P x.w = .ok (.map (some x.w.heap.size)) (x.w.alloc (.map #[] 0)) := rfl
  simp only [Sem.run_bind, this, Result.andThen_ok, Sem.run_pure]
def hasK (b : Bool) : List (Bool × Int) → Bool
  | [] => false
  | (true, _) :: l => match b with
    | true => true
    | false => hasK b l
  | (false, _) :: l => match b with
    | true => hasK b l
    | false => true
def selK (b : Bool) : List (Bool × Int) → Int
  | [] => 0
  | (true, n) :: l => bif b then n else selK b l
  | (false, n) :: l => bif b then selK b l else n
def vins (P : Program) (h : Heap) (t : TypeId) (m k v : V) : Option Heap := match mapOf h m, k, v with
  | some (id, b, k', es), .b t', .i kk n => match keyBool P t with
    | some _ => if k' = kk ∧ b.wr = true ∧ hasK t' es = false then some (h.set id { b with d := .bm k' (es ++ [(t', n)]) }) else none
    | none => none
  | _, _, _ => none
def vlook (P : Program) (h : Heap) (t : TypeId) (m k : V) : Option V := match mapOf h m, k with
  | some (_, _, k', es), .b t' => match keyBool P t with
    | some _ => match hasK true es && hasK false es with
      | true => some (.i k' (selK t' es))
      | false => none
    | none => none
  | _, _ => none
theorem find_none : ∀ (es : List (Bool × Int)) (ents : List MapEntry) (k : IntKind) (b : Bool) (i : Nat), ents.map (fun e => (e.key, e.val)) = es.map (fun p => (Value.bool p.1, Value.int k p.2)) → hasK b es = false → Instr.findNow .bool (.bool b) ents i = some none
  | [], ents, k, b, i, h, _ => by
    cases ents with
    | nil => rfl
    | cons _ _ => cases h
  | (c, n) :: es, ents, k, b, i, h, hh => by
    cases ents with
    | nil => cases h
    | cons e ents =>
      simp only [List.map_cons, List.cons.injEq, Prod.mk.injEq] at h
      obtain ⟨⟨h1, h2⟩, h3⟩ := h
      have ih := find_none es ents k b (i + 1) h3
      unfold Instr.findNow
      rw [h1]
      cases c <;> cases b <;> simp only [hasK] at hh <;> first | cases hh | exact ih hh
theorem find_some : ∀ (es : List (Bool × Int)) (ents : List MapEntry) (k : IntKind) (b : Bool) (i : Nat), ents.map (fun e => (e.key, e.val)) = es.map (fun p => (Value.bool p.1, Value.int k p.2)) → hasK b es = true → ∃ j, Instr.findNow .bool (.bool b) ents i = some (some (j, .int k (selK b es)))
  | [], ents, k, b, i, h, hh => by cases hh
  | (c, n) :: es, ents, k, b, i, h, hh => by
    cases ents with
    | nil => cases h
    | cons e ents =>
      simp only [List.map_cons, List.cons.injEq, Prod.mk.injEq] at h
      obtain ⟨⟨h1, h2⟩, h3⟩ := h
      have ih := find_some es ents k b (i + 1) h3
      unfold Instr.findNow
      rw [h1, h2]
      cases c <;> cases b <;> simp only [hasK] at hh <;> first | exact ih hh | exact ⟨i, rfl⟩
theorem vlook_ok {x : Cx} (hx : HR x) {t : TypeId} {m k r : V} {v u : Value} (h : vlook x.P x.h t m k = some r) (hm : VR x m v) (hk : VR x k u) : ∃ z, (Instr.lookup t v u false).run x.P x.w = .ok z x.w ∧ VR x r z := by
  unfold vlook at h
  split at h
  case h_2 => cases h
  rename_i id b k' es t' hmo
  split at h
  case h_2 => cases h
  rename_i kk hkb
  split at h
  case h_2 => cases h
  rename_i hall
  injection h with h; subst h
  simp only [Bool.and_eq_true] at hall
  obtain ⟨rfl, _, _, _, ents, clock, hb, hen⟩ := mapOf_ok hx hmo hm
  simp only [VR] at hk; subst hk
  obtain ⟨kt, et, u1, u2, u3⟩ := keyBool_ok hkb
  obtain ⟨j, hj⟩ := find_some es ents.toList k' t' 0 hen (by cases t'; exact hall.2; exact hall.1)
  refine ⟨.int k' (selK t' es), ?_, rfl⟩
  simp [Instr.lookup, run_underlying u1, Go.MapKept.run_getObj_map hb, Go.MapKept.run_checkKey (n := 9999) (d := .bool) (k := .bool t') u2 (by simp [Go.MapKept.IsKey]), Go.MapKept.run_findKey u2 hj, Result.andThen]
theorem vins_ok {x : Cx} (hx : HR x) {t : TypeId} {m k c : V} {v u z : Value} {h' : Heap} (h : vins x.P x.h t m k c = some h') (hm : VR x m v) (hk : VR x k u) (hc : VR x c z) : Does x (do Instr.mapUpdate t v u z; pure .skip) .u h' := by
  unfold vins at h
  split at h
  case h_2 => cases h
  rename_i id b k' es t' kk n hmo
  split at h
  case h_2 => cases h
  rename_i k2 hkb
  split at h
  case isFalse => cases h
  rename_i hcond
  obtain ⟨rfl, hw, hnk⟩ := hcond
  injection h with h; subst h
  obtain ⟨rfl, h1, hlv, hd, ents, clock, hb, hen⟩ := mapOf_ok hx hmo hm
  simp only [VR] at hk hc; subst hk hc
  obtain ⟨kt, et, u1, u2, u3⟩ := keyBool_ok hkb
  have hf := find_none es ents.toList k' t' 0 hen hnk
  let o : Obj := .map (ents.push { key := .bool t', val := .int k' n, born := clock }) (clock + 1)
  let y : Cx := { x with w := { x.w with heap := x.w.heap.setIfInBounds (x.ρ id) o }, h := x.h.set id { b with d := .bm k' (es ++ [(t', n)]) } }
  have hrun : (Instr.mapUpdate t (.map (some (x.ρ id))) (.bool t') (.int k' n)).run x.P x.w = .ok () y.w := by
    simp [Instr.mapUpdate, run_underlying u1, Go.MapKept.run_getObj_map hb, Go.MapKept.run_checkKey (n := 9999) (d := .bool) (k := .bool t') u2 (by simp [Go.MapKept.IsKey]), Go.MapKept.run_findKey u2 hf, Go.MapKept.run_setObj_map _ hb, Result.andThen, y, o]
  have hnew := (Go.MapKept.heap_set (o' := o) hb).1
  have hoth : ∀ n, n ≠ x.ρ id → y.w.heap[n]? = x.w.heap[n]? := (Go.MapKept.heap_set (o' := o) hb).2
  have hsz : y.w.heap.size = x.w.heap.size := by simp [y]
  have hown : x.own (x.ρ id) := ⟨id, b, h1, hlv, hw, rfl⟩
  have hne : ∀ j b', x.h[j]? = some b' → x.lv j b' → j ≠ id → x.ρ j ≠ x.ρ id := fun j b' hj hg' hji e => hji (hx.inj j id b' b hj hg' h1 hlv e)
  have get : ∀ j, y.h[j]? = if j = id then some { b with d := .bm k' (es ++ [(t', n)]) } else x.h[j]? := fun j => by
    show (x.h.set id _)[j]? = _
    rw [List.getElem?_set]
    have hlt : id < x.h.length := (List.getElem?_eq_some_iff.1 h1).1
    by_cases hj : id = j
    · subst hj; simp [hlt]
    · simp [hj, Ne.symm hj]
  have shp : ∀ j, y.w.shape? j = x.w.shape? j := fun j => by
    by_cases hj : j = x.ρ id
    · subst hj
      unfold World.shape?
      rw [hb]
      show (match (x.w.heap.setIfInBounds (x.ρ id) o)[x.ρ id]? with | _ => _) = _
      rw [hnew]
    · unfold World.shape?; rw [hoth j hj]
  have howns : ∀ n, y.own n → x.own n := by
    rintro n ⟨j, b', k1, k2, k3, k4⟩
    rw [get] at k1
    by_cases h : j = id
    · subst h; exact ⟨j, b, h1, hlv, hw, k4⟩
    · rw [if_neg h] at k1; exact ⟨j, b', k1, k2, k3, k4⟩
  have ext : Ext x y := by
    refine ⟨⟨rfl, fun j b' hj => ?_, fun n hn ho => ⟨ho, hoth n (by rintro rfl; exact ho (hx.ownav _ hown))⟩, by rw [hsz]; exact Nat.le_refl _⟩, fun n hn ho => ⟨fun h => ho (howns n h), hoth n (by rintro rfl; exact ho hown)⟩, fun _ _ ha _ => ha⟩
    rw [get]
    by_cases h : j = id
    · subst h
      rw [h1] at hj; injection hj with hj; subst hj
      refine ⟨_, if_pos rfl, Nat.le_refl _, fun _ _ => ⟨hlv.2, rfl, shp _, ?_⟩⟩
      unfold Blk.cs
      rw [hd]
      exact Nat.le_refl _
    · exact ⟨b', by rw [if_neg h]; exact hj, Nat.le_refl _, fun _ h0 => ⟨h0.2, rfl, shp _, Nat.le_refl _⟩⟩
  refine ⟨.skip, y, ?_, ⟨ext, ⟨fun j b' hj hg' hm' => ?_, fun j b' k1 es1 hj hg' hdm => ?_, fun i j b1 b2 hi hg1 hj hg2 hρ => ?_, fun n hn => hx.ownav n (howns n hn), fun n hn => by rw [hsz]; exact hx.avlt n hn, fun j b' hj hg' => ?_⟩, ⟨rfl, rfl, rfl⟩⟩, rfl, rfl, .inr ⟨rfl, rfl⟩⟩
  · simp only [Sem.run_bind, hrun, Result.andThen_ok, Sem.run_pure]
  · rw [get] at hj
    by_cases h : j = id
    · rw [if_pos h] at hj; injection hj with hj; subst hj; cases hm'
    · rw [if_neg h] at hj
      obtain ⟨c, lo', hi', k1, k2, k3, k4, k5⟩ := hx.blk j b' hj hg' hm'
      exact ⟨c, lo', hi', (hoth _ (hne j b' hj hg' h)).trans k1, k2, k3.mono ext.mono, k4, k5.mono ext.mono⟩
  · rw [get] at hj
    by_cases h : j = id
    · rw [if_pos h] at hj; injection hj with hj; subst hj
      injection hdm with e1 e2; subst e1 e2
      subst h
      refine ⟨_, _, hnew, ?_⟩
      simp [hen]
    · rw [if_neg h] at hj
      exact (hx.mps j b' k1 es1 hj hg' hdm).of (hoth _ (hne j b' hj hg' h))
  · rw [get] at hi hj
    have fi : ∃ c, x.h[i]? = some c ∧ x.lv i c := by
      by_cases h : i = id
      · subst h; exact ⟨b, h1, hlv⟩
      · rw [if_neg h] at hi; exact ⟨b1, hi, hg1⟩
    have fj : ∃ c, x.h[j]? = some c ∧ x.lv j c := by
      by_cases h : j = id
      · subst h; exact ⟨b, h1, hlv⟩
      · rw [if_neg h] at hj; exact ⟨b2, hj, hg2⟩
    obtain ⟨c1, p1, p2⟩ := fi
    obtain ⟨c2, q1, q2⟩ := fj
    exact hx.inj i j c1 c2 p1 p2 q1 q2 hρ
  · rw [get] at hj
    by_cases h : j = id
    · rw [if_pos h] at hj; injection hj with hj; subst hj; exact .inl hw
    · rw [if_neg h] at hj; exact hx.safe j b' hj hg'
def vnil (h : Heap) : V → Option V
  | .u => none
  | .nilp => none
  | .nilf => none
  | .tup _ => none
  | .ref id gen off => if cur h id gen = true then some (.ref id gen off) else none
  | .own _ _ _ _ _ => none
  | .rrf id gen row sz fld => if cur h id gen = true then some (.rrf id gen row sz fld) else none
  | .st _ => none
  | .mref _ _ => none
  | c => some c
theorem vnil_ok {x : Cx} {c r : V} {v : Value} (h : vnil x.h c = some r) (hv : VR x c v) : c = r ∧ v ≠ .pointer none ∧ v ≠ .nilIface ∧ v ≠ .nilFunc ∧ ∀ m a b, v ≠ .func (.method m) a b := by
  cases c with
  | ref id gen off =>
    simp only [vnil] at h
    split at h
    · rename_i hc
      injection h with h
      refine ⟨h, ?_⟩
      rw [cur_ref hc hv]
      simp
    · cases h
  | rrf id gen row sz fld =>
    simp only [vnil] at h
    split at h
    · rename_i hc
      injection h with h
      refine ⟨h, ?_⟩
      rw [cur_rrf hc hv]
      simp
    · cases h
  | sl n sz cs => simp only [vnil, Option.some.injEq] at h; obtain ⟨a, cap, rfl, _⟩ := hv; exact ⟨h, by simp⟩
  | si n k xs => simp only [vnil, Option.some.injEq] at h; obtain ⟨a, cap, rfl, _⟩ := hv; exact ⟨h, by simp⟩
  | sr n sz g => simp only [vnil, Option.some.injEq] at h; obtain ⟨a, cap, rfl, _⟩ := hv; exact ⟨h, by simp⟩
  | pl cs => simp only [vnil, Option.some.injEq] at h; obtain ⟨a, cap, rfl, _⟩ := hv; exact ⟨h, by simp⟩
  | fn f cs => simp only [vnil, Option.some.injEq] at h; obtain ⟨l, rfl, _⟩ := hv; exact ⟨h, by simp⟩
  | agg cs => simp only [vnil, Option.some.injEq] at h; obtain ⟨l, rfl, _⟩ := hv; exact ⟨h, by simp⟩
  | nils => simp only [vnil, Option.some.injEq] at h; obtain ⟨l, rfl⟩ := hv; exact ⟨h, by simp⟩
  | b t => simp only [vnil, Option.some.injEq] at h; simp only [VR] at hv; subst hv; exact ⟨h, by simp⟩
  | i k t => simp only [vnil, Option.some.injEq] at h; simp only [VR] at hv; subst hv; exact ⟨h, by simp⟩
  | s t => simp only [vnil, Option.some.injEq] at h; simp only [VR] at hv; subst hv; exact ⟨h, by simp⟩
  | _ => simp [vnil] at h
def vpick : V → V → V → Option V
  | .b t, .b p, .b q => some (.b (bif t then p else q))
  | .b t, .i k p, .i k' q => if k = k' then some (.i k (bif t then p else q)) else none
  | .b t, p, q => match t with
    | true => some p
    | false => some q
  | _, _, _ => none
theorem vpick_ok {x : Cx} {c p q r : V} {v u z : Value} (h : vpick c p q = some r) (hc : VR x c v) (hp : VR x p u) (hq : VR x q z) :
    ∃ o, (do pure (.value (if ← asBool v then u else z)) : Sem Next).run x.P x.w = .ok (.value o) x.w ∧ VR x r o := by
  unfold vpick at h
  split at h
  · injection h with h; subst h
    simp only [VR] at hc hp hq; subst hc hp hq
    rename_i t p q
    cases t
    · exact ⟨_, rfl, rfl⟩
    · exact ⟨_, rfl, rfl⟩
  · split at h
    · rename_i hk; subst hk
      injection h with h; subst h
      simp only [VR] at hc hp hq; subst hc hp hq
      rename_i t k p q
      cases t
      · exact ⟨_, rfl, rfl⟩
      · exact ⟨_, rfl, rfl⟩
    · cases h
  · simp only [VR] at hc; subst hc
    split at h
    · injection h with h; subst h; exact ⟨_, rfl, hp⟩
    · injection h with h; subst h; exact ⟨_, rfl, hq⟩
  · cases h
def wk (h : Heap) (c : V) : V := match c with
  | .ref id gen _ => if cur h id gen = true then .pl [] else .u
  | .rrf id gen _ _ _ => if cur h id gen = true then .pl [] else .u
  | c => c
theorem wk_ok {x : Cx} {c : V} {v : Value} (h : VR x c v) : VR x (wk x.h c) v := by
  cases c with
  | ref id gen off =>
    simp only [wk]
    split
    · rename_i hc; rw [cur_ref hc h]; exact ⟨_, _, rfl, .inl rfl⟩
    · trivial
  | rrf id gen row sz fld =>
    simp only [wk]
    split
    · rename_i hc; rw [cur_rrf hc h]; exact ⟨_, _, rfl, .inl rfl⟩
    · trivial
  | _ => exact h
def sameOp : Operand → Operand → Bool
  | .tmp a, .tmp b => Nat.beq a b
  | .const (.int k a), .const (.int k' b) => decide (k = k') && decide (a = b)
  | _, _ => false
theorem sameOp_eq {a b : Operand} (h : sameOp a b = true) : a = b := by
  unfold sameOp at h
  split at h
  · rw [Nat.eq_of_beq_eq_true h]
  · simp only [Bool.and_eq_true, decide_eq_true_eq] at h; rw [h.1, h.2]
  · cases h
def opv (P : Program) (h : Heap) (id : Nat) (e : Operand → V) : Op → Option (V × Heap)
  | .move a => some (e a, h)
  | .assign a => some (e a, h)
  | .pick c a b => (vpick (e c) (e a) (e b)).bind fun r => some (r, h)
  | .alloc elem => if blank h id = true then (zcells P elem).bind fun cs => some (.ref id 1 0, newb h id elem (mkD P elem cs)) else none
  | .box elem a => if blank h id = true then (vcells (e a)).bind fun cs => if cs.all okc = true then some (.ref id 1 0, newb h id elem (mkD P elem cs)) else none else none
  | .build t ps => (vbuild P t (ps.toList.map fun p => (p.1, e p.2))).bind fun r => some (r, h)
  | .buildSlice t len ps => vbuildSlice P h id t len (ps.toList.map fun p => (p.1, e p.2))
  | .load t a => (vloadAt P h t (e a)).bind fun r => some (r, h)
  | .store t a c => (vstoreAt P h t (e a) (e c)).bind fun h' => some (.u, h')
  | .nilCheck a => (vnil h (e a)).bind fun r => some (r, h)
  | .binOp op t a b _ => (vbinx P op t (wk h (e a)) (wk h (e b))).bind fun r => some (r, h)
  | .unOp op _ a => (vun op (e a)).bind fun r => some (r, h)
  | .convert s d a => match toStr P s d with
    | true => (vstr h (e a)).bind fun r => some (r, h)
    | false => match toBys P s d with
      | true => match P.underlying d with
        | some (.slice el) => vbys h id el (e a)
        | _ => none
      | false => match toSelf P s d with
        | true => (vmark h (e a)).bind fun r => some (r, h)
        | false => (vconv P s d (e a)).bind fun r => some (r, h)
  | .makeSlice t l c => if sameOp l c = true then vmake P h id t (e l) else none
  | .call { callee := .builtin .append, args := as, argTypes := ts } => match as.toList, ts.toList with
    | [a, b], [st, xt] => vappend P h id st xt (e a) (e b)
    | _, _ => none
  | .makeFunc (.func f) first caps => if first.size = 0 then some (.fn f (caps.toList.map e), h) else none
  | .slice t a lo hi mx => (vslice P h t (e a) (lo.map e) (hi.map e) (mx.map e)).bind fun r => some (r, h)
  | .fieldAddr s a f => (vfieldAddr P h s (e a) f).bind fun r => some (r, h)
  | .field s a f => (vfield P s (e a) f).bind fun r => some (r, h)
  | .indexAddr t a i => (vindexAddr P h t (e a) (e i)).bind fun r => some (r, h)
  | .index t a i => (vindex P t (e a) (e i)).bind fun r => some (r, h)
  | .extract a i => (vextract (e a) i).bind fun r => some (r, h)
  | .makeMap t r => match r with
    | none => vnewm P h id t
    | some _ => none
  | .insert t m k v => (vins P h t (e m) (e k) (e v)).bind fun h' => some (.u, h')
  | .lookup t m k ok => match ok with
    | false => (vlook P h t (e m) (e k)).bind fun r => some (r, h)
    | true => none
  | .call { callee := .builtin .len, args := as, argTypes := ts } => match as.toList, ts[0]? with
    | [a], some t => (vlen P h t (e a)).bind fun r => some (r, h)
    | _, _ => none
  | .call { callee := .builtin .min, args := as, argTypes := _ } => match as.toList.map e with
    | .i k m :: l => (vmin k m l).bind fun r => some (r, h)
    | _ => none
  | .call { callee := .builtin .max, args := as, argTypes := _ } => match as.toList.map e with
    | .i k m :: l => (vmax k m l).bind fun r => some (r, h)
    | _ => none
  | _ => none
theorem bind_pair {r : Option V} {h h' : Heap} {c : V} (e : (r.bind fun z => some (z, h)) = some (c, h')) : r = some c ∧ h' = h := by
  cases r with
  | none => cases e
  | some z => simp only [Option.bind_some, Option.some.injEq, Prod.mk.injEq] at e; obtain ⟨rfl, rfl⟩ := e; exact ⟨rfl, rfl⟩
theorem parts_ok {x : Cx} {e : Operand → V} {ρ : Operand → Value} (he : ∀ o, VR x (e o) (ρ o)) (ps : Array (Nat × Operand)) :
    (ps.toList.map fun p => (p.1, e p.2)).length = (ps.map fun (i, y) => (i, ρ y)).toList.length ∧ ∀ (j : Nat) p q, (ps.toList.map fun p => (p.1, e p.2))[j]? = some p → (ps.map fun (i, y) => (i, ρ y)).toList[j]? = some q → p.1 = q.1 ∧ VR x p.2 q.2 := by
  refine ⟨by simp, fun j p q hp hq => ?_⟩
  simp only [List.getElem?_map] at hp
  simp at hq
  cases hj : ps.toList[j]? with
  | none => rw [hj] at hp; cases hp
  | some o =>
    rw [hj] at hp
    simp only [Option.map_some, Option.some.injEq] at hp
    have : ps[j]? = some o := by simpa using hj
    rw [this] at hq
    simp at hq
    obtain ⟨p1, p2, rfl, rfl⟩ := hq
    subst hp
    exact ⟨rfl, he _⟩
theorem opv_ok {x : Cx} (hx : HR x) {id : Nat} {e : Operand → V} {ρ : Operand → Value} (he : ∀ o, VR x (e o) (ρ o)) {o : Oper} {r : V} {h' : Heap} (h : opv x.P x.h id e o.op = some (r, h')) : Does x (execOp ρ o) r h' := by
  unfold execOp
  cases ho : o.op with
  | move a =>
    rw [ho] at h; simp only [opv, Option.some.injEq, Prod.mk.injEq] at h; obtain ⟨rfl, rfl⟩ := h
    exact Does.pure_ hx (s := pure (ρ a)) ⟨_, rfl, he a⟩
  | assign a =>
    rw [ho] at h; simp only [opv, Option.some.injEq, Prod.mk.injEq] at h; obtain ⟨rfl, rfl⟩ := h
    exact Does.pure_ hx (s := pure (ρ a)) ⟨_, rfl, he a⟩
  | pick c a b =>
    rw [ho] at h; obtain ⟨g, rfl⟩ := bind_pair h
    obtain ⟨z, h1, h2⟩ := vpick_ok g (he c) (he a) (he b)
    exact ⟨_, x, h1, To.refl hx, rfl, rfl, .inl ⟨z, rfl, h2⟩⟩
  | alloc elem =>
    rw [ho] at h; simp only [opv] at h
    split at h
    · rename_i hb
      cases hz : zcells x.P elem with
      | none => simp [hz] at h
      | some cs =>
        simp only [hz, Option.bind_some, Option.some.injEq, Prod.mk.injEq] at h; obtain ⟨rfl, rfl⟩ := h
        exact alloc_ok hx hb elem hz
    · cases h
  | box elem a =>
    rw [ho] at h; simp only [opv] at h
    split at h
    · rename_i hb
      cases hz : vcells (e a) with
      | none => simp [hz] at h
      | some cs =>
        simp only [hz, Option.bind_some] at h
        split at h
        · rename_i hok
          simp only [Option.some.injEq, Prod.mk.injEq] at h; obtain ⟨rfl, rfl⟩ := h
          exact box_ok hx hb elem hz hok (he a)
        · cases h
    · cases h
  | build t ps =>
    rw [ho] at h; obtain ⟨g, rfl⟩ := bind_pair h
    exact Does.pure_ hx (vbuild_ok g (parts_ok he ps))
  | buildSlice t len ps =>
    rw [ho] at h; simp only [opv] at h
    exact vbuildSlice_ok hx h (parts_ok he ps)
  | load t a =>
    rw [ho] at h; obtain ⟨g, rfl⟩ := bind_pair h
    exact Does.pure_ hx (vloadAt_ok hx g (he a))
  | store t a c =>
    rw [ho] at h; simp only [opv] at h
    cases hz : vstoreAt x.P x.h t (e a) (e c) with
    | none => simp [hz] at h
    | some h2 =>
      simp only [hz, Option.bind_some, Option.some.injEq, Prod.mk.injEq] at h; obtain ⟨rfl, rfl⟩ := h
      exact vstoreAt_ok hx hz (he a) (he c)
  | nilCheck a =>
    rw [ho] at h; obtain ⟨g, rfl⟩ := bind_pair h
    obtain ⟨e1, n1, n2, n3, n4⟩ := vnil_ok g (he a)
    refine ⟨.value (ρ a), x, ?_, To.refl hx, rfl, rfl, .inl ⟨_, rfl, e1 ▸ he a⟩⟩
    simp only
    generalize ρ a = v at *
    rfl
  | binOp op t a b t' =>
    rw [ho] at h; obtain ⟨g, rfl⟩ := bind_pair h
    exact Does.pure_ hx (vbinx_ok g (wk_ok (he a)) (wk_ok (he b)))
  | unOp op t a =>
    rw [ho] at h; obtain ⟨g, rfl⟩ := bind_pair h
    exact Does.pure_ hx (vun_ok g (he a))
  | convert s d a =>
    rw [ho] at h
    simp only [opv] at h
    split at h
    · rename_i ht
      obtain ⟨g, rfl⟩ := bind_pair h
      obtain ⟨z, h1, h2⟩ := vstr_ok hx g (he a)
      refine Does.pure_ hx ⟨z, ?_, h2⟩
      simp only [toStr, Bool.and_eq_true] at ht
      obtain ⟨t1, t2⟩ := ht
      unfold isByteSl at t1
      split at t1
      case h_2 => cases t1
      rename_i el hu
      split at t1
      case h_2 => cases t1
      rename_i hel
      split at t2
      case h_2 => cases t2
      rename_i hd
      unfold convert
      simp only [Sem.run_bind, run_underlying hu, run_underlying hd, Result.andThen_ok]
      have hnn : (Conv.bytesToString (ρ a)).run x.P x.w = .ok z x.w := h1
      generalize ρ a = v at *
      cases v with
      | slice => simp only [Sem.run_bind, run_underlying hel, Result.andThen_ok]; exact h1
      | _ => simp [Conv.bytesToString, stuck] at h1
    · split at h
      · rename_i ht
        split at h
        case h_2 => cases h
        rename_i el hu
        obtain ⟨s', z, y, hv, h1, h2, h3, h4, h5⟩ := vbys_ok hx h (he a)
        refine ⟨.value z, y, ?_, h2, h3, h4, .inl ⟨z, rfl, h5⟩⟩
        simp only [toBys, Bool.and_eq_true] at ht
        obtain ⟨t1, t2⟩ := ht
        unfold isByteSl at t1
        rw [hu] at t1
        simp only at t1
        split at t1
        case h_2 => cases t1
        rename_i hel
        split at t2
        case h_2 => cases t2
        rename_i hs
        simp only [hv]
        have : (convert s d (.string s')).run x.P x.w = .ok z y.w := by
          unfold convert
          simp only [Sem.run_bind, run_underlying hs, run_underlying hu, Result.andThen_ok, run_underlying hel]
          exact h1
        simp only [Sem.run_bind, this, Result.andThen_ok, Sem.run_pure]
      · split at h
        · rename_i ht
          obtain ⟨g, rfl⟩ := bind_pair h
          obtain ⟨ad, n, cap, hv, y, h1, h2, h3, h4, h5⟩ := vmark_ok (s := s) hx g (he a)
          simp only [toSelf, Bool.and_eq_true] at ht
          obtain ⟨t1, t2⟩ := ht
          have := Nat.eq_of_beq_eq_true t1
          subst this
          unfold isByteSl at t2
          split at t2
          case h_2 => cases t2
          rename_i el hu
          split at t2
          case h_2 => cases t2
          rename_i hel
          refine ⟨.value (ρ a), y, ?_, h2, h3, h4, .inl ⟨_, rfl, h5⟩⟩
          have : (convert s s (ρ a)).run x.P x.w = .ok (ρ a) y.w := by
            rw [hv]
            unfold convert
            simp only [Sem.run_bind, run_underlying hu, Result.andThen_ok, run_underlying hel, beq_self_eq_true, h1, Sem.run_pure]
          simp only [Sem.run_bind, this, Result.andThen_ok, Sem.run_pure]
        · obtain ⟨g, rfl⟩ := bind_pair h
          exact Does.pure_ hx (vconv_ok g (he a))
  | makeSlice t l c =>
    rw [ho] at h
    simp only [opv] at h
    split at h
    · rename_i hs
      have := sameOp_eq hs
      subst this
      exact vmake_ok hx h (he l)
    · cases h
  | makeFunc fn first caps =>
    rw [ho] at h
    cases fn with
    | func f =>
      simp only [opv] at h
      split at h
      · rename_i hs
        simp only [Option.some.injEq, Prod.mk.injEq] at h; obtain ⟨rfl, rfl⟩ := h
        have : first = #[] := Array.eq_empty_of_size_eq_zero hs
        subst this
        refine Does.pure_ hx ⟨_, rfl, (caps.map ρ).toList, by rw [Array.map_empty], ?_⟩
        have := VRs.map he caps.toList
        simpa using this
      · cases h
    | _ => simp [opv] at h
  | slice t a lo hi mx =>
    rw [ho] at h; obtain ⟨g, rfl⟩ := bind_pair h
    have ho : ∀ o : Option Operand, OR x (o.map e) (o.map ρ) := fun o => by cases o with
      | none => trivial
      | some o => exact he o
    exact Does.pure_ hx (vslice_ok g (he a) (ho lo) (ho hi) (ho mx))
  | fieldAddr s a f =>
    rw [ho] at h; obtain ⟨g, rfl⟩ := bind_pair h
    exact Does.pure_ hx (vfieldAddr_ok g (he a))
  | field s a f =>
    rw [ho] at h; obtain ⟨g, rfl⟩ := bind_pair h
    exact Does.pure_ hx (vfield_ok g (he a))
  | indexAddr t a i =>
    rw [ho] at h; obtain ⟨g, rfl⟩ := bind_pair h
    exact Does.pure_ hx (vindexAddr_ok g (he a) (he i))
  | index t a i =>
    rw [ho] at h; obtain ⟨g, rfl⟩ := bind_pair h
    exact Does.pure_ hx (vindex_ok g (he a) (he i))
  | extract a i =>
    rw [ho] at h; obtain ⟨g, rfl⟩ := bind_pair h
    exact Does.pure_ hx (vextract_ok g (he a))
  | makeMap t rr =>
    rw [ho] at h
    cases rr with
    | none => exact vnewm_ok hx h
    | some _ => cases h
  | insert t m k c =>
    rw [ho] at h; simp only [opv] at h
    cases hz : vins x.P x.h t (e m) (e k) (e c) with
    | none => simp [hz] at h
    | some h2 =>
      simp only [hz, Option.bind_some, Option.some.injEq, Prod.mk.injEq] at h; obtain ⟨rfl, rfl⟩ := h
      exact vins_ok hx hz (he m) (he k) (he c)
  | lookup t m k ok =>
    rw [ho] at h
    cases ok with
    | false =>
      obtain ⟨g, rfl⟩ := bind_pair h
      exact Does.pure_ hx (vlook_ok hx g (he m) (he k))
    | true => cases h
  | call c =>
    rw [ho] at h
    obtain ⟨callee, as, ts⟩ := c
    have run1 : ∀ (b : Builtin) (s : Sem Value), (∀ cs ty, builtin b ts ty cs (as.map ρ) = (do pure (.value (← s)) : Sem Next)) → (∃ z, s.run x.P x.w = .ok z x.w ∧ VR x r z) → h' = x.h → Does x (do let d ← resolve ρ { callee := .builtin b, args := as, argTypes := ts } o.type; invoke d.target d.args) r h' := by
      rintro b s hb hz rfl
      have := Does.pure_ hx hz
      simp only [resolve]
      show Does x ((Sem.bind (pure _) _)) r x.h
      simp only [pure, Sem.bind, invoke, hb]
      exact this
    cases callee with
    | builtin b =>
      cases b with
      | len =>
        simp only [opv] at h
        split at h
        · rename_i a t has hts
          obtain ⟨g, rfl⟩ := bind_pair h
          have has' : as = #[a] := by
            apply Array.toList_inj.1; simpa using has
          subst has'
          refine run1 .len _ (fun _ _ => rfl) (vlen_ok (ty := 0) hts (v := ρ a) (by simp) g (he a)) rfl
        · cases h
      | min =>
        simp only [opv] at h
        split at h
        · rename_i k m l hl
          obtain ⟨g, rfl⟩ := bind_pair h
          cases has : as.toList with
          | nil => rw [has] at hl; simp at hl
          | cons a rest =>
            rw [has] at hl
            simp only [List.map_cons, List.cons.injEq] at hl
            obtain ⟨h1, h2⟩ := hl
            have hv := he a
            rw [h1] at hv
            simp only [VR] at hv
            obtain ⟨z, k1, k2⟩ := vmin_ok k l (rest.map ρ) m r (by rw [← h2]; exact VRs.map he rest) g
            refine run1 .min _ (fun _ _ => rfl) ⟨z, ?_, k2⟩ rfl
            simp only [Array.toList_map, has, List.map_cons, hv]
            exact k1
        · cases h
      | max =>
        simp only [opv] at h
        split at h
        · rename_i k m l hl
          obtain ⟨g, rfl⟩ := bind_pair h
          cases has : as.toList with
          | nil => rw [has] at hl; simp at hl
          | cons a rest =>
            rw [has] at hl
            simp only [List.map_cons, List.cons.injEq] at hl
            obtain ⟨h1, h2⟩ := hl
            have hv := he a
            rw [h1] at hv
            simp only [VR] at hv
            obtain ⟨z, k1, k2⟩ := vmax_ok k l (rest.map ρ) m r (by rw [← h2]; exact VRs.map he rest) g
            refine run1 .max _ (fun _ _ => rfl) ⟨z, ?_, k2⟩ rfl
            simp only [Array.toList_map, has, List.map_cons, hv]
            exact k1
        · cases h
      | append =>
        simp only [opv] at h
        split at h
        · rename_i a b st xt has hts
          have has' : as = #[a, b] := by apply Array.toList_inj.1; simpa using has
          have hts' : ts = #[st, xt] := by apply Array.toList_inj.1; simpa using hts
          subst has' hts'
          obtain ⟨z, y, h1, h2, h3, h4, h5⟩ := vappend_ok (ty := o.type) hx h (he a) (he b)
          refine ⟨.value z, y, ?_, h2, h3, h4, .inl ⟨z, rfl, h5⟩⟩
          simp only [resolve, Sem.run_bind, Sem.run_pure, Result.andThen_ok, invoke, builtin, List.map_toArray, List.map_cons, List.map_nil, h1]
        · cases h
      | _ => simp [opv] at h
    | _ => simp [opv] at h
  | _ => rw [ho] at h; simp [opv] at h
def Cx.out (x : Cx) (av : Nat → Prop) : Cx := { x with h := [], av := av }
theorem mono_out {x : Cx} {av : Nat → Prop} (h : ∀ n, av n → x.av n) : Mono x.bare (x.out av) :=
  ⟨rfl, fun id bk hb => by simp [Cx.bare] at hb, fun n _ hn => ⟨fun k => hn (h n k), rfl⟩, Nat.le_refl _⟩
def fzl (f : TypeId → V → Option (V × List Nat)) (all : List TypeId) : List TypeId → List V → Option (List V × List Nat)
  | _, [] => some ([], [])
  | [], c :: cs => match all with
    | [] => none
    | t :: ts => match f t c, fzl f all ts cs with
      | some (r, i1), some (rs, i2) => some (r :: rs, i1 ++ i2)
      | _, _ => none
  | t :: ts, c :: cs => match f t c, fzl f all ts cs with
      | some (r, i1), some (rs, i2) => some (r :: rs, i1 ++ i2)
      | _, _ => none
def fzc (P : Program) (h : Heap) : Nat → TypeId → V → Option (V × List Nat)
  | 0, _, _ => none
  | d + 1, t, c => match c with
    | .own id gen off n sz => match blkOf h id gen with
      | none => none
      | some b => match b.d with
        | .ints k xs => if sz = 1 then some (.si n k (xs.drop off), [id]) else none
        | .list cs => match P.underlying t with
          | some (.slice el) => match fzl (fzc P h d) (leaves P 8 el) (leaves P 8 el) (cs.drop off) with
            | some (ds, ids) => some (.sl n sz ds, id :: ids)
            | none => none
          | _ => none
        | .recs _ s g => if s = sz ∧ off % s = 0 then some (.sr n sz (shift s off g), [id]) else none
        | .mix _ _ _ => none
        | .bm _ _ => none
    | .nils => match P.underlying t with
      | some (.slice el) => match P.underlying el with
        | some (.int k) => some (.si 0 k [], [])
        | _ => match szOf P el with
          | some (s + 1) => some (.sl 0 (s + 1) [], [])
          | _ => none
      | _ => none
    | .ref id gen off => match blkOf h id gen with
      | none => none
      | some b => match b.d with
        | .ints k xs => some (.pl ((xs.map (.i k)).drop off), [id])
        | .list cs => match fzl (fzc P h d) (leaves P 8 b.elem) (leaves P 8 b.elem) cs with
          | some (ds, ids) => some (.pl (ds.drop off), id :: ids)
          | none => none
        | .recs _ _ _ => none
        | .mix _ _ _ => none
        | .bm _ _ => none
    | .fn f caps => match fzl (fzc P h d) [0] [0] caps with
      | some (ds, ids) => some (.fn f ds, ids)
      | none => none
    | c => if bareOk c = true then some (c, []) else none
def fzv (P : Program) (h : Heap) (t : TypeId) : V → Option (V × List Nat)
  | .agg cs => match fzl (fzc P h 6) (leaves P 8 t) (leaves P 8 t) cs with
    | some (ds, ids) => some (.agg ds, ids)
    | none => none
  | c => fzc P h 6 t c
theorem fzl_ok {x y : Cx} {f : TypeId → V → Option (V × List Nat)} {S : List Nat → Prop} (hS : ∀ a b, S (a ++ b) → S a ∧ S b) (hf : ∀ t c r i, f t c = some (r, i) → S i → ∀ v, VR x c v → VR y r v) (all : List TypeId) :
    ∀ (ts : List TypeId) (cs rs : List V) (i : List Nat), fzl f all ts cs = some (rs, i) → S i → ∀ l, VRs x cs l → VRs y rs l
  | _, [], rs, i, h, _, l, hl => by simp [fzl] at h; obtain ⟨rfl, rfl⟩ := h; exact hl
  | [], c :: cs, rs, i, h, hs, l, hl => by
    obtain ⟨v, vs, rfl, h1, h2⟩ := hl
    simp only [fzl] at h
    cases all with
    | nil => simp at h
    | cons t ts =>
      simp only at h
      split at h
      · rename_i r i1 rs' i2 e1 e2
        simp only [Option.some.injEq, Prod.mk.injEq] at h; obtain ⟨rfl, rfl⟩ := h
        obtain ⟨s1, s2⟩ := hS _ _ hs
        exact ⟨v, vs, rfl, hf _ _ _ _ e1 s1 v h1, fzl_ok hS hf (t :: ts) ts cs _ _ e2 s2 vs h2⟩
      · cases h
  | t :: ts, c :: cs, rs, i, h, hs, l, hl => by
    obtain ⟨v, vs, rfl, h1, h2⟩ := hl
    simp only [fzl] at h
    split at h
    · rename_i r i1 rs' i2 e1 e2
      simp only [Option.some.injEq, Prod.mk.injEq] at h; obtain ⟨rfl, rfl⟩ := h
      obtain ⟨s1, s2⟩ := hS _ _ hs
      exact ⟨v, vs, rfl, hf _ _ _ _ e1 s1 v h1, fzl_ok hS hf all ts cs _ _ e2 s2 vs h2⟩
    · cases h
theorem fzl_cells {x y : Cx} {f : TypeId → V → Option (V × List Nat)} {S : List Nat → Prop} (hS : ∀ a b, S (a ++ b) → S a ∧ S b) (hf : ∀ t c r i, f t c = some (r, i) → S i → ∀ v, VR x c v → VR y r v) (hw : y.w = x.w) (all : List TypeId) :
    ∀ (ts : List TypeId) (cs rs : List V) (i : List Nat), fzl f all ts cs = some (rs, i) → S i → rs.length = cs.length ∧ ∀ bk off, (∀ j c, cs[j]? = some c → ∃ v, x.w.cell? ⟨bk, off + j, none⟩ = some v ∧ one v = true ∧ VR x c v) → VRc y rs bk off
  | _, [], rs, i, h, _ => by simp [fzl] at h; obtain ⟨rfl, rfl⟩ := h; exact ⟨rfl, fun _ _ _ => trivial⟩
  | [], c :: cs, rs, i, h, hs => by
    simp only [fzl] at h
    cases all with
    | nil => simp at h
    | cons t ts =>
      simp only at h
      split at h
      · rename_i r i1 rs' i2 e1 e2
        simp only [Option.some.injEq, Prod.mk.injEq] at h; obtain ⟨rfl, rfl⟩ := h
        obtain ⟨s1, s2⟩ := hS _ _ hs
        obtain ⟨k1, k2⟩ := fzl_cells hS hf hw (t :: ts) ts cs _ _ e2 s2
        refine ⟨by simp [k1], fun bk off hc => ⟨?_, k2 bk (off + 1) (fun j d hj => ?_)⟩⟩
        · obtain ⟨v, p, o1, q⟩ := hc 0 c rfl
          exact ⟨v, by rw [hw]; exact p, o1, hf _ _ _ _ e1 s1 v q⟩
        · have := hc (j + 1) d (by simpa using hj)
          rwa [show off + (j + 1) = off + 1 + j by omega] at this
      · cases h
  | t :: ts, c :: cs, rs, i, h, hs => by
    simp only [fzl] at h
    split at h
    · rename_i r i1 rs' i2 e1 e2
      simp only [Option.some.injEq, Prod.mk.injEq] at h; obtain ⟨rfl, rfl⟩ := h
      obtain ⟨s1, s2⟩ := hS _ _ hs
      obtain ⟨k1, k2⟩ := fzl_cells hS hf hw all ts cs _ _ e2 s2
      refine ⟨by simp [k1], fun bk off hc => ⟨?_, k2 bk (off + 1) (fun j d hj => ?_)⟩⟩
      · obtain ⟨v, p, o1, q⟩ := hc 0 c rfl
        exact ⟨v, by rw [hw]; exact p, o1, hf _ _ _ _ e1 s1 v q⟩
      · have := hc (j + 1) d (by simpa using hj)
        rwa [show off + (j + 1) = off + 1 + j by omega] at this
    · cases h
theorem fzc_ok {x : Cx} (hx : HR x) {av : Nat → Prop} (hav : ∀ n, av n → x.av n) : ∀ (d : Nat) (t : TypeId) (c r : V) (i : List Nat), fzc x.P x.h d t c = some (r, i) → (∀ id ∈ i, ∀ b, x.h[id]? = some b → x.lv id b → ¬ av (x.ρ id)) → ∀ v, VR x c v → VR (x.out av) r v
  | 0, _, _, _, _, h, _ => by simp [fzc] at h
  | d + 1, t, c, r, i, h, hi => by
    intro v hv
    have hbare : bareOk c = true → some (c, []) = some (r, i) → VR (x.out av) r v := by
      intro hb he
      simp only [Option.some.injEq, Prod.mk.injEq] at he; obtain ⟨rfl, rfl⟩ := he
      exact (VR_bareOk hb hv).mono (mono_out hav)
    have Sd : ∀ a b : List Nat, (∀ id ∈ a ++ b, ∀ b, x.h[id]? = some b → x.lv id b → ¬ av (x.ρ id)) → (∀ id ∈ a, ∀ b, x.h[id]? = some b → x.lv id b → ¬ av (x.ρ id)) ∧ (∀ id ∈ b, ∀ b, x.h[id]? = some b → x.lv id b → ¬ av (x.ρ id)) :=
      fun a b h => ⟨fun id hid => h id (List.mem_append_left _ hid), fun id hid => h id (List.mem_append_right _ hid)⟩
    cases c with
    | own id gen off n sz =>
      simp only [fzc] at h
      cases hb : blkOf x.h id gen with
      | none => simp [hb] at h
      | some b =>
        simp only [hb] at h
        obtain ⟨h1, h2, h3, h4⟩ := blkOf_spec hb
        obtain ⟨_, bk, g1, _, g3⟩ := hv
        rw [h1] at g1; injection g1 with g1; subst g1
        obtain ⟨a, cap, rfl, q1, qz, q3⟩ := g3 h2.symm h3
        split at h
        · rename_i k xs hd
          split at h
          · rename_i hs; subst hs
            simp only [Option.some.injEq, Prod.mk.injEq] at h; obtain ⟨rfl, rfl⟩ := h
            refine ⟨_, cap, rfl, q1, ?_⟩
            by_cases hn : n = 0
            · exact .inl hn
            rcases q3 with ⟨p1, _⟩ | ⟨hp, o, rfl, hlen, hr⟩
            · exact absurd p1 hn
            rcases hlen with p1 | hlen
            · exact absurd p1 hn
            rcases hr with ⟨p1, _⟩ | ⟨rfl, _⟩
            · exact absurd p1 hn
            have hlv : x.lv id b := ⟨by omega, hp⟩
            have hl : b.cs.length = xs.length := by simp [Blk.cs, hd, D.toV]
            refine .inr ⟨x.ρ id, o, rfl, hi id (by simp) b h1 hlv, by rw [List.length_drop]; omega, fun j e hj he => ?_⟩
            rw [List.getElem?_drop] at he
            obtain ⟨z, z1, z2⟩ := block_cell hx h1 hlv (o + j) (.i k e) (by simp [Blk.cs, hd, D.toV, he])
            simp only [VR] at z2; subst z2
            exact z1
          · cases h
        · rename_i cs hd
          split at h
          · rename_i el hu
            split at h
            · rename_i ds ids hf
              simp only [Option.some.injEq, Prod.mk.injEq] at h; obtain ⟨rfl, rfl⟩ := h
              refine ⟨_, cap, rfl, q1, qz, ?_⟩
              by_cases hn : n = 0
              · exact .inl hn
              rcases q3 with ⟨p1, _⟩ | ⟨hp, o, rfl, hlen, hr⟩
              · exact absurd p1 hn
              rcases hlen with p1 | hlen
              · exact absurd p1 hn
              rcases hr with ⟨p1, _⟩ | ⟨rfl, _⟩
              · exact absurd p1 hn
              have hlv : x.lv id b := ⟨by omega, hp⟩
              have hl : b.cs.length = cs.length := by simp [Blk.cs, hd, D.toV]
              obtain ⟨k1, k2⟩ := fzl_cells (y := x.out av) (S := fun i => ∀ id ∈ i, ∀ b, x.h[id]? = some b → x.lv id b → ¬ av (x.ρ id)) Sd
                (fun t c r i e s => fzc_ok hx hav d t c r i e s) rfl _ _ _ _ _ hf (fun id hid => hi id (List.mem_cons_of_mem _ hid))
              refine .inr ⟨x.ρ id, o, rfl, hi id (by simp) b h1 hlv, ?_, ?_⟩
              · rw [k1, List.length_drop]; omega
              · exact k2 (x.ρ id) o (fun j c hj => by
                  rw [List.getElem?_drop] at hj
                  exact block_cell1 hx h1 hlv (o + j) c (by simpa [Blk.cs, hd, D.toV] using hj))
            · cases h
          · cases h
        · rename_i n' s g hd
          split at h
          · rename_i hs
            obtain ⟨rfl, hmod⟩ := hs
            simp only [Option.some.injEq, Prod.mk.injEq] at h; obtain ⟨rfl, rfl⟩ := h
            refine ⟨_, cap, rfl, q1, qz, ?_⟩
            by_cases hn : n = 0
            · exact .inl hn
            rcases q3 with ⟨p1, _⟩ | ⟨hp, o, rfl, hlen, hr⟩
            · exact absurd p1 hn
            rcases hlen with p1 | hlen
            · exact absurd p1 hn
            rcases hr with ⟨p1, _⟩ | ⟨rfl, _⟩
            · exact absurd p1 hn
            have hlv : x.lv id b := ⟨by omega, hp⟩
            obtain ⟨cs, lo, hi', m1, m2, m3, m4, m5⟩ := hx.blk id b h1 hlv (by rw [hd]; rfl)
            rw [hd] at m5
            have hl : b.cs.length = n' * s := by simp [Blk.cs, hd, D.toV, fitted_length]
            have e : o / s * s = o := Nat.div_mul_cancel (Nat.dvd_of_mod_eq_zero hmod)
            refine .inr ⟨x.ρ id, o, rfl, hi id (by simp) b h1 hlv, fun j hj => ?_⟩
            have hrow : o / s + j < n' := by
              have : (o / s + j + 1) * s ≤ n' * s := by
                rw [Nat.add_assoc, Nat.add_mul, e]
                have : (j + 1) * s ≤ n * s := Nat.mul_le_mul_right _ hj
                omega
              exact Nat.le_of_mul_le_mul_right this qz
            have hgl := m5.1 _ hrow
            rw [shift_at]
            refine ⟨hgl, ?_⟩
            have hbnd : (o / s + j) * s + s ≤ n' * s := by
              have : (o / s + j + 1) * s ≤ n' * s := Nat.mul_le_mul_right _ hrow
              rw [Nat.succ_mul] at this; exact this
            have hcell : ∀ k c, (g (o / s + j))[k]? = some c → ∃ v, x.w.cell? ⟨x.ρ id, (o / s + j) * s + k, none⟩ = some v ∧ one v = true ∧ VR x.bare c v := by
              intro k c hk
              have hks : k < s := by have := (List.getElem?_eq_some_iff.1 hk).1; omega
              have hf := fitted_get (sz := s) (g := g) hks hrow
              rw [fit_id hgl, hk] at hf
              obtain ⟨v, v1, v2⟩ := m5.2.get _ _ hf
              rw [List.getElem?_take] at v1
              rw [hl] at v1
              rw [if_pos (by omega)] at v1
              refine ⟨v, ?_, m4 v (List.mem_of_getElem? v1), v2⟩
              simpa [World.cell?, m1] using v1
            have mk : ∀ (cs : List V) (off : Nat), (∀ k c, cs[k]? = some c → ∃ v, x.w.cell? ⟨x.ρ id, off + k, none⟩ = some v ∧ one v = true ∧ VR x.bare c v) → VRc (x.out av).bare cs (x.ρ id) off := by
              intro cs
              induction cs with
              | nil => intro off _; trivial
              | cons c cs ih =>
                intro off hc
                obtain ⟨v, v1, v2, v3⟩ := hc 0 c rfl
                refine ⟨⟨v, v1, v2, v3.mono ?_⟩, ih (off + 1) fun k c' hk => by
                  have := hc (k + 1) c' (by simpa using hk)
                  rwa [show off + (k + 1) = off + 1 + k by omega] at this⟩
                exact (mono_out hav).bare
            have := mk (g (o / s + j)) ((o / s + j) * s) hcell
            rwa [Nat.add_mul, e] at this
          · cases h
        · cases h
        · cases h
    | ref id gen off =>
      simp only [fzc] at h
      cases hb : blkOf x.h id gen with
      | none => simp [hb] at h
      | some b =>
        simp only [hb] at h
        obtain ⟨h1, h2, h3, h4⟩ := blkOf_spec hb
        have hlv := cur_lv h1 h2 h3 hv
        rw [cur_ref h4 hv]
        split at h
        · rename_i k xs hd
          simp only [Option.some.injEq, Prod.mk.injEq] at h; obtain ⟨rfl, rfl⟩ := h
          refine ⟨x.ρ id, off, rfl, .inr ⟨hi id (by simp) b h1 hlv, ?_⟩⟩
          have mk : ∀ (ys : List Int) (o : Nat), (∀ k' e, ys[k']? = some e → x.w.cell? ⟨x.ρ id, o + k', none⟩ = some (.int k e)) → VRc (x.out av).bare (ys.map (.i k)) (x.ρ id) o := by
            intro ys
            induction ys with
            | nil => intro o _; trivial
            | cons y ys ih =>
              intro o hc
              refine ⟨⟨_, hc 0 y rfl, rfl, rfl⟩, ih (o + 1) fun k' e hk => by
                have := hc (k' + 1) e (by simpa using hk)
                rwa [show o + (k' + 1) = o + 1 + k' by omega] at this⟩
          rw [← List.map_drop]
          refine mk _ _ fun k' e he => ?_
          rw [List.getElem?_drop] at he
          obtain ⟨z, z1, z2⟩ := block_cell hx h1 hlv (off + k') (.i k e) (by simp [Blk.cs, hd, D.toV, he])
          simp only [VR] at z2; subst z2
          exact z1
        · rename_i cs hd
          split at h
          · rename_i ds ids hf
            simp only [Option.some.injEq, Prod.mk.injEq] at h; obtain ⟨rfl, rfl⟩ := h
            obtain ⟨k1, k2⟩ := fzl_cells (y := (x.out av).bare) (S := fun i => ∀ id ∈ i, ∀ b, x.h[id]? = some b → x.lv id b → ¬ av (x.ρ id)) Sd
              (fun t c r i e s v hv => fzc_ok hx hav d t c r i e s v hv) rfl _ _ _ _ _ hf (fun id hid => hi id (List.mem_cons_of_mem _ hid))
            refine ⟨x.ρ id, off, rfl, .inr ⟨hi id (by simp) b h1 hlv, ?_⟩⟩
            have := k2 (x.ρ id) 0 (fun j c hj => by
              rw [Nat.zero_add]
              exact block_cell1 hx h1 hlv j c (by simpa [Blk.cs, hd, D.toV] using hj))
            have := this.drop off
            rwa [Nat.zero_add] at this
          · cases h
        · cases h
        · cases h
        · cases h
    | nils =>
      simp only [fzc] at h
      obtain ⟨a, rfl⟩ := hv
      split at h
      · split at h
        · simp only [Option.some.injEq, Prod.mk.injEq] at h; obtain ⟨rfl, rfl⟩ := h
          exact ⟨a, 0, rfl, Nat.le_refl _, .inl rfl⟩
        · split at h
          · simp only [Option.some.injEq, Prod.mk.injEq] at h; obtain ⟨rfl, rfl⟩ := h
            exact ⟨a, 0, rfl, Nat.le_refl _, by omega, .inl rfl⟩
          · cases h
      · cases h
    | fn f caps =>
      simp only [fzc] at h
      split at h
      · rename_i ds ids hf
        simp only [Option.some.injEq, Prod.mk.injEq] at h; obtain ⟨rfl, rfl⟩ := h
        obtain ⟨l, rfl, hl⟩ := hv
        exact ⟨l, rfl, fzl_ok (S := fun i => ∀ id ∈ i, ∀ b, x.h[id]? = some b → x.lv id b → ¬ av (x.ρ id)) Sd (fun t c r i e s => fzc_ok hx hav d t c r i e s) _ _ _ _ _ hf hi l hl⟩
      · cases h
    | b t' => exact hbare rfl (by simpa [fzc, bareOk] using h)
    | i k n => exact hbare rfl (by simpa [fzc, bareOk] using h)
    | s b => exact hbare rfl (by simpa [fzc, bareOk] using h)
    | nilp => exact hbare rfl (by simpa [fzc, bareOk] using h)
    | nilf => exact hbare rfl (by simpa [fzc, bareOk] using h)
    | sl n sz cs => exact hbare rfl (by simpa [fzc, bareOk] using h)
    | si n k xs => exact hbare rfl (by simpa [fzc, bareOk] using h)
    | sr n sz g => exact hbare rfl (by simpa [fzc, bareOk] using h)
    | u => exact hbare rfl (by simpa [fzc, bareOk] using h)
    | st xs => exact hbare rfl (by simpa [fzc, bareOk] using h)
    | pl cs => exact hbare rfl (by simpa [fzc, bareOk] using h)
    | _ => simp [fzc, bareOk] at h
theorem fzv_ok {x : Cx} (hx : HR x) {av : Nat → Prop} (hav : ∀ n, av n → x.av n) {t : TypeId} {c r : V} {i : List Nat} (h : fzv x.P x.h t c = some (r, i)) (hi : ∀ id ∈ i, ∀ b, x.h[id]? = some b → x.lv id b → ¬ av (x.ρ id)) {v : Value} (hv : VR x c v) : VR (x.out av) r v := by
  cases c with
  | agg cs =>
    simp only [fzv] at h
    split at h
    · rename_i ds ids hf
      simp only [Option.some.injEq, Prod.mk.injEq] at h; obtain ⟨rfl, rfl⟩ := h
      obtain ⟨l, rfl, hl⟩ := hv
      exact ⟨l, rfl, fzl_ok (S := fun i => ∀ id ∈ i, ∀ b, x.h[id]? = some b → x.lv id b → ¬ av (x.ρ id)) (fun a b h => ⟨fun id hid => h id (List.mem_append_left _ hid), fun id hid => h id (List.mem_append_right _ hid)⟩) (fun t c r i e s => fzc_ok hx hav 6 t c r i e s) _ _ _ _ _ hf hi l hl⟩
    · cases h
  | _ => simp only [fzv] at h; exact fzc_ok hx hav 6 _ _ _ _ h hi v hv
abbrev inR (k : IntKind) (n : Int) : Prop := k.min ≤ n ∧ n ≤ k.max
abbrev lenM : Nat := 9223372036854775807
mutual
def V.ok : V → Prop
  | .i k n => inR k n
  | .agg cs => oks cs
  | .tup cs => oks cs
  | .s a => a.size < 2 ^ 62
  | .sl n _ cs => n ≤ lenM ∧ oks cs
  | .si n k xs => n ≤ lenM ∧ ∀ e ∈ xs, inR k e
  | .sr n _ g => n ≤ lenM ∧ ∀ j, oks (g j)
  | .own _ _ _ n _ => n ≤ lenM
  | .pl cs => oks cs
  | .fn _ caps => oks caps
  | .st xs => xs.length ≤ lenM ∧ ∀ e ∈ xs, 0 ≤ e ∧ e < 256
  | _ => True
def oks : List V → Prop
  | [] => True
  | c :: cs => V.ok c ∧ oks cs
end
theorem oks_iff : ∀ {cs : List V}, oks cs ↔ ∀ c ∈ cs, c.ok
  | [] => ⟨(fun _ _ h => by cases h), fun _ => trivial⟩
  | c :: cs => by
    rw [oks, oks_iff]
    simp
theorem oks.app {cs ds : List V} (h : oks cs) (k : oks ds) : oks (cs ++ ds) := oks_iff.2 fun c hc => (List.mem_append.1 hc).elim (oks_iff.1 h c) (oks_iff.1 k c)
theorem oks.take {cs : List V} (h : oks cs) (n : Nat) : oks (cs.take n) := oks_iff.2 fun c hc => oks_iff.1 h c (List.mem_of_mem_take hc)
theorem oks.drop {cs : List V} (h : oks cs) (n : Nat) : oks (cs.drop n) := oks_iff.2 fun c hc => oks_iff.1 h c (List.mem_of_mem_drop hc)
theorem oks.get {cs : List V} (h : oks cs) {j : Nat} {c : V} (hj : cs[j]? = some c) : c.ok := oks_iff.1 h c (List.mem_of_getElem? hj)
theorem oks.getD {cs : List V} (h : oks cs) (j : Nat) : (cs.getD j .u).ok := by
  rw [List.getD_eq_getElem?_getD]
  cases hc : cs[j]? with
  | none => trivial
  | some c => exact h.get hc
theorem oks.set {cs : List V} (h : oks cs) (j : Nat) {c : V} (hc : c.ok) : oks (cs.set j c) := oks_iff.2 fun d hd => (List.mem_or_eq_of_mem_set hd).elim (oks_iff.1 h d) fun e => e ▸ hc
theorem oks.lay {cs vs : List V} (h : oks cs) (k : oks vs) : ∀ o, oks (lay cs o vs) := by
  induction vs generalizing cs with
  | nil => intro o; exact h
  | cons v vs ih => intro o; exact ih (h.set o k.1) k.2 (o + 1)
theorem oks_us (n : Nat) : oks (List.replicate n V.u) := oks_iff.2 fun c hc => by rw [List.eq_of_mem_replicate hc]; trivial
theorem oks.fit {cs : List V} (h : oks cs) (sz : Nat) : oks (fit sz cs) := (h.app (oks_us sz)).take sz
def D.ok : D → Prop
  | .list cs => oks cs
  | .ints k xs => ∀ e ∈ xs, inR k e
  | .recs _ _ g => ∀ j, oks (g j)
  | .mix pre k xs => oks pre ∧ ∀ e ∈ xs, inR k e
  | .bm k es => ∀ p ∈ es, inR k p.2
def hok (h : Heap) : Prop := ∀ b ∈ h, b.d.ok
theorem hok.at {h : Heap} (hh : hok h) {id gen : Nat} {b : Blk} (hb : blkOf h id gen = some b) : b.d.ok := hh b (List.mem_of_getElem? (blkOf_spec hb).1)
theorem hok.set {h : Heap} (hh : hok h) (id : Nat) {b : Blk} (hb : b.d.ok) : hok (h.set id b) := fun c hc => (List.mem_or_eq_of_mem_set hc).elim (hh c) fun e => e ▸ hb
theorem oks_ints {k : IntKind} {xs : List Int} (h : ∀ e ∈ xs, inR k e) : oks (xs.map (V.i k)) := oks_iff.2 fun c hc => by
  obtain ⟨e, he, rfl⟩ := List.mem_map.1 hc
  exact h e he
theorem ints_oks {k : IntKind} {cs : List V} {xs : List Int} (h : asInts k cs = some xs) (hc : oks cs) : ∀ e ∈ xs, inR k e := fun e he => by
  have := asInts_ok h
  rw [← this] at hc
  exact oks_iff.1 hc (V.i k e) (List.mem_map_of_mem he)
theorem wrap_in (k : IntKind) (n : Int) : inR k (k.wrap n) := by
  cases k <;> simp only [inR, IntKind.min, IntKind.max, IntKind.wrap, IntKind.bits, IntKind.signed] <;> simp <;> (try split) <;> omega
theorem shr_in {k : IntKind} {a : Int} (h : inR k a) (m : Nat) : inR k (a / 2 ^ m) := by
  have hp : (0 : Int) < 2 ^ m := Int.pow_pos (by omega)
  rcases Int.lt_or_le a 0 with ha | ha
  · have h1 : a ≤ a / 2 ^ m := (Int.le_ediv_iff_mul_le hp).2 (by
      have := Int.mul_le_mul_of_nonpos_left (a := a) (b := 2 ^ m) (c := 1) (by omega) (by omega)
      simpa using this)
    have h2 : a / 2 ^ m < 0 := Int.ediv_lt_of_lt_mul hp (by simpa using ha)
    have h3 : 0 ≤ k.max := by cases k <;> decide
    exact ⟨by omega, by omega⟩
  · have h1 : 0 ≤ a / 2 ^ m := Int.ediv_nonneg ha (by omega)
    have h2 : a / 2 ^ m ≤ a := Int.ediv_le_self _ ha
    have h3 : k.min ≤ 0 := by cases k <;> decide
    exact ⟨by omega, by omega⟩
theorem tmod_in {k : IntKind} {a b : Int} (h : inR k a) : inR k (a.tmod b) := by
  have key : ∀ x : Int, 0 ≤ x → 0 ≤ x.tmod b ∧ x.tmod b ≤ x := fun x hx => by
    refine ⟨Int.tmod_nonneg b hx, ?_⟩
    have h1 : (x.tmod b).natAbs ≤ x.natAbs := by rw [Int.natAbs_tmod]; exact Nat.mod_le _ _
    have := Int.tmod_nonneg b hx
    omega
  have h3 : k.min ≤ 0 := by cases k <;> decide
  have h4 : 0 ≤ k.max := by cases k <;> decide
  rcases Int.lt_or_le a 0 with ha | ha
  · have := key (-a) (by omega)
    rw [Int.neg_tmod] at this
    exact ⟨by omega, by omega⟩
  · have := key a ha
    exact ⟨by omega, by omega⟩
theorem ok_ofCell (v : Value) : (ofCell v).ok := by
  unfold ofCell
  split <;> (try split) <;> first | trivial | assumption
theorem ok_ofVal (v : Value) : (ofVal v).ok := by
  unfold ofVal
  split
  · exact oks_iff.2 fun c hc => by
      obtain ⟨a, _, rfl⟩ := List.mem_map.1 hc
      exact ok_ofCell a
  · split <;> trivial
  · exact ok_ofCell v
theorem ok_ev {t : List V} (h : oks t) (o : Operand) : (ev t o).ok := by
  cases o with
  | tmp n => exact h.getD n
  | const v => exact ok_ofVal v
  | func f => trivial
  | global g => trivial
theorem ok_cells {c : V} {cs : List V} (h : c.ok) (hc : vcells c = some cs) : oks cs := by
  cases c <;> simp only [vcells, Option.some.injEq, reduceCtorEq] at hc
  case agg => subst hc; exact h
  all_goals (subst hc; exact ⟨h, trivial⟩)
theorem ok_part {P : Program} {t : TypeId} {cs : List V} {off : Nat} {r : V} (h : vpart P t cs off = some r) (hc : oks cs) : r.ok := by
  unfold vpart at h
  split at h
  · split at h
    · injection h with h; subst h; exact (hc.drop _).take _
    · cases h
  · exact hc.get h
  · cases h
theorem len_in {n : Nat} (h : n ≤ lenM) : (V.i .i64 n).ok := by
  show inR .i64 n
  simp only [inR, IntKind.min, IntKind.max, IntKind.signed, IntKind.bits]
  unfold lenM at h
  omega
theorem ok_bin {op : BinOp} {c d r : V} (h : vbin op c d = some r) (hc : c.ok) (hd : d.ok) : r.ok := by
  have sb : ∀ {xs ys r}, sbin op xs ys = some r → (∀ e ∈ xs, 0 ≤ e ∧ e < 256) → (∀ e ∈ ys, 0 ≤ e ∧ e < 256) → r.ok := by
    intro xs ys r h h1 h2
    unfold sbin at h
    split at h
    · injection h with h; subst h; trivial
    · injection h with h; subst h; trivial
    · split at h
      · injection h with h; subst h
        refine ⟨by rw [List.length_append]; unfold lenM; omega, fun e he => (List.mem_append.1 he).elim (h1 e) (h2 e)⟩
      · cases h
    · cases h
  have hb : ∀ a : ByteArray, ∀ e ∈ bys a, 0 ≤ e ∧ e < 256 := fun a e he => by
    obtain ⟨b, _, rfl⟩ := List.mem_map.1 he
    have := b.toNat_lt
    omega
  unfold vbin at h
  split at h
  · rename_i k a k' b
    split at h
    · split at h
      · injection h with h; subst h; exact wrap_in _ _
      · cases h
    · split at h
      · injection h with h; subst h; exact shr_in hc _
      · cases h
    · split at h
      · split at h
        all_goals first
          | (injection h with h; subst h; first | exact wrap_in _ _ | trivial)
          | (split at h
             · cases h
             · injection h with h; subst h; first | exact wrap_in _ _ | exact tmod_in hc)
          | cases h
      · cases h
  · split at h
    · injection h with h; subst h; trivial
    · injection h with h; subst h; trivial
    · cases h
  · exact sb h hc.2 hd.2
  · exact sb h (hb _) hd.2
  · exact sb h hc.2 (hb _)
  · cases h
theorem ok_binx {P : Program} {op : BinOp} {t : TypeId} {c d r : V} (h : vbinx P op t c d = some r) (hc : c.ok) (hd : d.ok) : r.ok := by
  unfold vbinx at h
  split at h
  · exact ok_bin h hc hd
  · exact ok_bin h hc hd
  · exact ok_bin h hc hd
  · split at h
    · split at h
      · cases hv : veq P 8 t c d with
        | none => rw [hv] at h; cases h
        | some b => rw [hv] at h; injection h with h; subst h; trivial
      · cases h
    · split at h
      · cases hv : veq P 8 t c d with
        | none => rw [hv] at h; cases h
        | some b => rw [hv] at h; injection h with h; subst h; trivial
      · cases h
    · cases h
theorem ok_wk {h : Heap} {c : V} (hc : c.ok) : (wk h c).ok := by
  cases c with
  | ref => simp only [wk]; split <;> trivial
  | rrf => simp only [wk]; split <;> trivial
  | _ => exact hc
theorem ok_un {op : UnOp} {c r : V} (h : vun op c = some r) (hc : c.ok) : r.ok := by
  unfold vun at h
  split at h
  · injection h with h; subst h; exact wrap_in _ _
  · injection h with h; subst h; exact wrap_in _ _
  · injection h with h; subst h; trivial
  · cases h
theorem ok_conv {P : Program} {s d : TypeId} {c r : V} (h : vconv P s d c = some r) (hc : c.ok) : r.ok := by
  unfold vconv at h
  split at h
  · split at h
    · injection h with h; subst h; exact wrap_in _ _
    · cases h
  · split at h
    · injection h with h; subst h; exact hc
    · cases h
  · split at h
    · injection h with h; subst h; exact hc
    · cases h
  · cases h
theorem ok_min' {k : IntKind} : ∀ {l : List V} {m : Int} {r : V}, vmin k m l = some r → inR k m → oks l → r.ok
  | [], m, r, h, hm, _ => by simp [vmin] at h; subst h; exact hm
  | c :: l, m, r, h, hm, hl => by
    cases c with
    | i k' y =>
      simp only [vmin] at h
      split at h
      · rename_i hk; subst hk
        refine ok_min' (l := l) h ?_ hl.2
        unfold mn; split
        · exact hl.1
        · exact hm
      · cases h
    | _ => simp [vmin] at h
theorem ok_max' {k : IntKind} : ∀ {l : List V} {m : Int} {r : V}, vmax k m l = some r → inR k m → oks l → r.ok
  | [], m, r, h, hm, _ => by simp [vmax] at h; subst h; exact hm
  | c :: l, m, r, h, hm, hl => by
    cases c with
    | i k' y =>
      simp only [vmax] at h
      split at h
      · rename_i hk; subst hk
        refine ok_max' (l := l) h ?_ hl.2
        unfold mx; split
        · exact hl.1
        · exact hm
      · cases h
    | _ => simp [vmax] at h
theorem ok_len {P : Program} {h : Heap} {t : TypeId} {c r : V} (e : vlen P h t c = some r) (hc : c.ok) : r.ok := by
  unfold vlen at e
  split at e
  · injection e with e; subst e; exact len_in (by have : _ < _ := hc; unfold lenM; omega)
  · injection e with e; subst e; exact len_in hc.1
  · injection e with e; subst e; exact len_in hc.1
  · injection e with e; subst e; exact len_in hc.1
  · split at e
    · injection e with e; subst e; exact len_in hc
    · cases e
  · injection e with e; subst e; exact len_in (n := 0) (by unfold lenM; omega)
  · split at e
    · injection e with e; subst e; exact len_in (by unfold lenM; omega)
    · cases e
  · injection e with e; subst e; exact len_in hc.1
  · cases e
theorem ok_fieldAddr {P : Program} {h : Heap} {s : TypeId} {c r : V} {f : Nat} (e : vfieldAddr P h s c f = some r) (hc : c.ok) : r.ok := by
  unfold vfieldAddr at e
  repeat' split at e
  all_goals first
    | (injection e with e; subst e; first | trivial | exact oks.drop hc _)
    | cases e
theorem ok_field {P : Program} {s : TypeId} {c r : V} {f : Nat} (e : vfield P s c f = some r) (hc : c.ok) : r.ok := by
  unfold vfield at e
  repeat' split at e
  all_goals first
    | exact ok_part e hc
    | cases e
theorem ok_extract {c r : V} {i : Nat} (e : vextract c i = some r) (hc : c.ok) : r.ok := by
  unfold vextract at e
  split at e
  · exact oks.get hc e
  · cases e
theorem byte_in {e : Int} (h : 0 ≤ e ∧ e < 256) : inR .u8 e := by
  simp only [inR, IntKind.min, IntKind.max, IntKind.signed, IntKind.bits]
  constructor
  · simp; exact h.1
  · simp; omega
theorem ok_index {P : Program} {t : TypeId} {c ix r : V} (e : vindex P t c ix = some r) (hc : c.ok) : r.ok := by
  unfold vindex at e
  split at e
  · split at e
    · split at e
      · split at e
        · split at e
          · exact ok_part e hc
          · cases e
        · cases e
      · cases e
    · split at e
      · split at e
        · injection e with e; subst e
          refine byte_in ?_
          have : ∀ u : UInt8, 0 ≤ (u.toNat : Int) ∧ (u.toNat : Int) < 256 := fun u => by have := u.toNat_lt; omega
          exact this _
        · cases e
      · split at e
        · rename_i xs hb
          injection e with e; subst e
          refine byte_in ?_
          rw [List.getD_eq_getElem?_getD, List.getElem?_eq_getElem (by omega)]
          exact hc.2 _ (List.getElem_mem _)
        · cases e
      · cases e
    · cases e
  · cases e
theorem zero_in (k : IntKind) : inR k 0 := by cases k <;> decide
theorem ok_indexAddr {P : Program} {h : Heap} {t : TypeId} {c ix r : V} (e : vindexAddr P h t c ix = some r) (hc : c.ok) : r.ok := by
  unfold vindexAddr at e
  split at e
  · split at e
    · split at e
      · split at e
        · split at e
          · split at e
            · injection e with e; subst e; exact (oks.drop hc.2 _).take _
            · cases e
          · cases e
        · split at e
          · split at e
            · injection e with e; subst e
              refine ⟨?_, trivial⟩
              have : ∀ {k : IntKind} {xs : List Int} (j : Nat), (∀ e ∈ xs, inR k e) → inR k (xs.getD j 0) := fun {k xs} j hx => by
                rw [List.getD_eq_getElem?_getD]
                cases hy : xs[j]? with
                | none => exact zero_in k
                | some y => exact hx y (List.mem_of_getElem? hy)
              exact this _ hc.2
            · cases e
          · cases e
        · split at e
          · split at e
            · rename_i hb
              injection e with e; subst e; exact hc.2 _
            · cases e
          · cases e
        · split at e
          · split at e
            · injection e with e; subst e; unfold rowAt; split <;> trivial
            · cases e
          · cases e
        · cases e
      · cases e
    · repeat' split at e
      all_goals first
        | (injection e with e; subst e; first | trivial | exact oks.drop hc _)
        | cases e
    · cases e
  · cases e
theorem ok_slice {P : Program} {h : Heap} {t : TypeId} {c r : V} {lo hi mx : Option V} (e : vslice P h t c lo hi mx = some r) (hc : c.ok) : r.ok := by
  unfold vslice at e
  split at e
  · split at e
    · split at e
      · split at e
        · repeat' split at e
          all_goals first
            | (injection e with e; subst e; exact ⟨by have := hc.1; omega, (oks.drop hc.2 _).take _⟩)
            | cases e
        · repeat' split at e
          all_goals first
            | (injection e with e; subst e; exact ⟨by have := hc.1; omega, fun x hx => hc.2 x (List.mem_of_mem_drop (List.mem_of_mem_take hx))⟩)
            | cases e
        · repeat' split at e
          all_goals first
            | (injection e with e; subst e; exact ⟨by have := hc.1; omega, fun j => hc.2 _⟩)
            | cases e
        · repeat' split at e
          all_goals first
            | (injection e with e; subst e; have hc : _ ≤ lenM := hc; show _ ≤ lenM; omega)
            | cases e
        · cases e
      · repeat' split at e
        all_goals first
          | (injection e with e; subst e; trivial)
          | cases e
      · cases e
    · cases e
  · split at e
    · repeat' split at e
      all_goals first
        | (injection e with e; subst e; have hc : _ < _ := hc; show _ < _; rw [ByteArray.size_extract]; omega)
        | cases e
    · cases e
  · cases e
end Go.Proofs.YtkmkhcmfpbffjaaGreat.VI
