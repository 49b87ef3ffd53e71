import Derived.Test.YtkknnloamidaiaaV35
import Derived.Deep.Slices
import Derived.ChangeArms
namespace Go.Proofs.Ytkknnloamidaiaa.VI
set_option linter.unusedVariables false
set_option linter.unusedSimpArgs false
open Go.ChangeShapes Go.RowKit Go.Deep Go.WideElems Go.WideShapes
set_option linter.unusedVariables false
set_option linter.unusedSimpArgs false
inductive Form where
  | b
  | i (k : IntKind)
  | st
  | ints (k : IntKind)
  | rows (e : Form) (sz : Nat)
  | unit
  | pair (f g : Form)
  | rep (n : Nat) (e : Form)
  | bad
def Form.fine : Form → Bool
  | .bad => false
  | .rows e _ => e.fine
  | .pair f g => f.fine && g.fine
  | .rep _ e => e.fine
  | _ => true
def Form.is1 : Form → Bool
  | .b => true
  | .i _ => true
  | .st => true
  | .ints _ => true
  | .rows _ _ => true
  | _ => false
def formF (P : Program) (f : TypeId → Form) (tot : Nat) : Nat → List Field → Form
  | off, [] => if off = tot then .unit else .bad
  | off, fd :: l => if fd.offset = off then .pair (f fd.type) (formF P f tot (off + P.cellsOf fd.type) l) else .bad
def form (P : Program) : Nat → TypeId → Form
  | 0, _ => .bad
  | d + 1, t => match P.underlying t with
    | some .bool => .b
    | some (.int k) => .i k
    | some .string => .st
    | some (.slice e) => match P.underlying e with
      | some (.int k) => if P.cellsOf e = 1 then .ints k else .bad
      | _ => if P.cellsOf e = 0 then .bad else .rows (form P d e) (P.cellsOf e)
    | some (.struct fs) => formF P (form P d) (P.cellsOf t) 0 fs.toList
    | some (.array n e) => if P.cellsOf t = n * P.cellsOf e then .rep n (form P d e) else .bad
    | _ => .bad
def shp : Form → List V → Prop
  | .b, c => ∃ x, c = [.b x]
  | .i k, c => ∃ n, inR k n ∧ c = [.i k n]
  | .st, c => ∃ xs, (V.st xs).ok ∧ c = [.st xs]
  | .ints k, c => ∃ xs, xs.length ≤ lenM ∧ (∀ e ∈ xs, inR k e) ∧ c = [.si xs.length k xs]
  | .rows e sz, c => ∃ n g, n ≤ lenM ∧ (∀ j, j < n → shp e (g j)) ∧ (∀ j, oks (g j)) ∧ c = [.sr n sz g]
  | .unit, c => c = []
  | .pair f g, c => ∃ c1 c2, shp f c1 ∧ shp g c2 ∧ c = c1 ++ c2
  | .rep n e, c => ∃ l : List (List V), l.length = n ∧ (∀ r ∈ l, shp e r) ∧ c = l.flatten
  | .bad, _ => False
theorem wf_in {k : IntKind} {n : Int} (h : (Lit.int k n).wf = true) : inR k n := by
  simpa [Lit.wf] using h
section
variable {H : Type} {enc : TypeId × Value → H} {P : Program} {W : World} {spare : Nat → Bool} {held : Bool}
def Got (P : Program) (W : World) (F : Form) (cs : List Value) : Prop := ∃ c, shp F c ∧ VRs (Cx.top P W) c cs ∧ oks c ∧ ∀ v ∈ cs, one v = true
theorem vrc_of {x : Cx} {bk : Nat} : ∀ {c : List V} {l : List Value} {off : Nat}, VRs x c l → (∀ i v, l[i]? = some v → x.w.cell? ⟨bk, off + i, none⟩ = some v) → (∀ v ∈ l, one v = true) → VRc x c bk off
  | [], _, _, _, _, _ => trivial
  | c :: cs, _, off, h, hc, h1 => by
    obtain ⟨v, vs, rfl, h2, h3⟩ := h
    refine ⟨⟨v, by have := hc 0 v rfl; rwa [Nat.add_zero] at this, h1 v (by simp), h2⟩, vrc_of h3 (fun i u hu => ?_) fun u hu => h1 u (by simp [hu])⟩
    have := hc (i + 1) u (by simpa using hu)
    rwa [show off + (i + 1) = off + 1 + i by omega] at this
theorem got_nil : Got P W .unit [] := ⟨[], rfl, rfl, trivial, fun v hv => by cases hv⟩
theorem Got.pair {F G : Form} {a b : List Value} (h : Got P W F a) (k : Got P W G b) : Got P W (.pair F G) (a ++ b) := by
  obtain ⟨c, h1, h2, h3, h4⟩ := h
  obtain ⟨d, k1, k2, k3, k4⟩ := k
  exact ⟨c ++ d, ⟨c, d, h1, k1, rfl⟩, h2.append k2, h3.app k3, fun v hv => (List.mem_append.1 hv).elim (h4 v) (k4 v)⟩
theorem got_fields {f : TypeId → Form} {tot : Nat} {cs : List Value} (hl : cs.length = tot) : ∀ (fs : List Field) (off : Nat), (formF P f tot off fs).fine = true → (∀ fd ∈ fs, (f fd.type).fine = true → Got P W (f fd.type) ((cs.drop fd.offset).take (P.cellsOf fd.type))) → Got P W (formF P f tot off fs) (cs.drop off)
  | [], off, h, _ => by
    simp only [formF] at h ⊢
    split at h
    · rename_i ho
      rw [if_pos ho, List.drop_of_length_le (by omega)]
      exact got_nil
    · cases h
  | fd :: l, off, h, hf => by
    simp only [formF] at h ⊢
    split at h
    · rename_i ho
      simp only [Form.fine, Bool.and_eq_true] at h
      rw [if_pos ho]
      have h1 := hf fd (by simp) h.1
      have h2 := got_fields hl l (off + P.cellsOf fd.type) h.2 fun g hg => hf g (by simp [hg])
      rw [ho] at h1
      have : cs.drop off = (cs.drop off).take (P.cellsOf fd.type) ++ cs.drop (off + P.cellsOf fd.type) := by
        rw [← List.drop_drop, List.take_append_drop]
      rw [this]
      exact h1.pair h2
    · cases h
theorem got_rep {e : Form} {s : Nat} {cs : List Value} : ∀ (n i : Nat), cs.length = (i + n) * s → (∀ j, j < i + n → Got P W e ((cs.drop (j * s)).take s)) → Got P W (.rep n e) (cs.drop (i * s))
  | 0, i, hl, _ => by
    rw [List.drop_of_length_le (by rw [hl]; simp)]
    exact ⟨[], ⟨[], rfl, fun r hr => absurd hr (by simp), rfl⟩, rfl, trivial, fun v hv => absurd hv (by simp)⟩
  | n + 1, i, hl, h => by
    obtain ⟨c, h1, h2, h3, h4⟩ := h i (by omega)
    obtain ⟨d, ⟨l, k0, k1, rfl⟩, k2, k3, k4⟩ := got_rep n (i + 1) (by rw [hl]; congr 1; omega) fun j hj => h j (by omega)
    have e1 : cs.drop (i * s) = (cs.drop (i * s)).take s ++ cs.drop ((i + 1) * s) := by
      rw [show (i + 1) * s = i * s + s by rw [Nat.add_mul, Nat.one_mul], ← List.drop_drop, List.take_append_drop]
    rw [e1]
    exact ⟨c ++ l.flatten, ⟨c :: l, by simp [k0], fun r hr => (List.mem_cons.1 hr).elim (fun e => e ▸ h1) (k1 r), rfl⟩, h2.append k2, h3.app k3, fun v hv => (List.mem_append.1 hv).elim (h4 v) (k4 v)⟩
theorem got_slice {e : Form} {s : Nat} (hs : 0 < s) {a : Addr} {len cap : Nat} (h1 : len ≤ cap) (h2 : cap ≤ maxLen) (h : ∀ i, i < len → ∃ cs', W.cells? 0 (a.add (i * s)) s = some cs' ∧ Got P W e cs') : Got P W (.rows e s) [.slice (some a) len cap] := by
  have hlen : len ≤ lenM := Nat.le_trans h1 h2
  by_cases h0 : len = 0
  · subst h0
    exact ⟨[.sr 0 s fun _ => []], ⟨0, fun _ => [], by decide, fun j hj => by omega, fun j => trivial, rfl⟩, ⟨_, _, rfl, ⟨_, cap, rfl, Nat.zero_le _, hs, .inl rfl⟩, rfl⟩, ⟨⟨by decide, fun j => trivial⟩, trivial⟩, fun v hv => by simp at hv; subst hv; rfl⟩
  · have key : ∀ i, ∃ c : List V, (i < len → shp e c ∧ c.length = s ∧ ∃ cs', W.cells? 0 (a.add (i * s)) s = some cs' ∧ VRs (Cx.top P W) c cs' ∧ ∀ v ∈ cs', one v = true) ∧ oks c := fun i => by
      by_cases hi : i < len
      · obtain ⟨cs', k1, c, k2, k3, k4, k5⟩ := h i hi
        exact ⟨c, fun _ => ⟨k2, by rw [← k3.length]; exact (World.cells?_some k1).2.1, cs', k1, k3, k5⟩, k4⟩
      · exact ⟨[], fun h => absurd h hi, trivial⟩
    let g : Nat → List V := fun i => Classical.choose (key i)
    have hg : ∀ i, (i < len → shp e (g i) ∧ (g i).length = s ∧ ∃ cs', W.cells? 0 (a.add (i * s)) s = some cs' ∧ VRs (Cx.top P W) (g i) cs' ∧ ∀ v ∈ cs', one v = true) ∧ oks (g i) := fun i => Classical.choose_spec (key i)
    obtain ⟨bk, off, spot⟩ := a
    have hspot : spot = none := by
      obtain ⟨_, _, cs', k1, _, _⟩ := (hg 0).1 (by omega)
      obtain ⟨_, k2, k3⟩ := World.cells?_some k1
      have := k3 0 hs
      rw [List.getElem?_eq_getElem (by omega)] at this
      simpa [Addr.add] using World.cell?_spot this
    subst hspot
    refine ⟨[.sr len s g], ⟨len, g, hlen, fun j hj => ((hg j).1 hj).1, fun j => (hg j).2, rfl⟩, ⟨_, _, rfl, ⟨_, cap, rfl, h1, hs, .inr ⟨bk, off, rfl, id, fun j hj => ?_⟩⟩, rfl⟩, ⟨⟨hlen, fun j => (hg j).2⟩, trivial⟩, fun v hv => by simp at hv; subst hv; rfl⟩
    obtain ⟨q1, q2, cs', q3, q4, q5⟩ := (hg j).1 hj
    refine ⟨q2, vrc_of (x := (Cx.top P W).bare) q4 (fun i v hv => ?_) q5⟩
    obtain ⟨_, p2, p3⟩ := World.cells?_some q3
    have hi : i < s := by rw [← p2]; exact (List.getElem?_eq_some_iff.1 hv).1
    have := p3 i hi
    rw [hv, Go.WideShapes.add_plain, Go.WideShapes.add_plain] at this
    exact this
theorem read_ok : ∀ (d : Nat) (t : TypeId) (fuel : Nat) (cs : List Value) (x : DataW H × List MemPlace), (form P d t).fine = true → DataW.trod enc P W 0 spare held fuel t cs = some x → Got P W (form P d t) cs := by
  intro d
  induction d with
  | zero => intro t fuel cs x hf; simp [form, Form.fine] at hf
  | succ d ih =>
    intro t fuel cs x hf h
    unfold form at hf ⊢
    split at hf
    · rename_i ht
      obtain ⟨b, rfl, _⟩ := DataW.trod_bool ht h
      exact ⟨_, ⟨b, rfl⟩, ⟨_, _, rfl, rfl, rfl⟩, ⟨trivial, trivial⟩, fun v hv => by simp at hv; subst hv; rfl⟩
    · rename_i k ht
      obtain ⟨n, rfl, _, hw⟩ := DataW.trod_int ht h
      exact ⟨_, ⟨n, wf_in hw, rfl⟩, ⟨_, _, rfl, rfl, rfl⟩, ⟨wf_in hw, trivial⟩, fun v hv => by simp at hv; subst hv; rfl⟩
    · rename_i ht
      obtain ⟨s, rfl, _, hs⟩ := DataW.trod_string ht h
      have hok : (V.st (s.data.toList.map fun c => (c.toNat : Int))).ok := by
        refine ⟨?_, fun e he => ?_⟩
        · rw [List.length_map, Array.length_toList]; exact hs
        · obtain ⟨c, _, rfl⟩ := List.mem_map.1 he
          have := c.toNat_lt
          omega
      exact ⟨_, ⟨_, hok, rfl⟩, ⟨_, _, rfl, ⟨s, rfl, rfl⟩, rfl⟩, ⟨hok, trivial⟩, fun v hv => by simp at hv; subst hv; rfl⟩
    · rename_i e ht
      split at hf
      · rename_i k he
        split at hf
        case isFalse => cases hf
        rename_i hc
        rw [if_pos hc]
        rcases open_slice ht h with ⟨rfl, _⟩ | ⟨a, len, cap, m, n, D, Pl, rfl, hb, hl, hm, hmm, _, hx⟩
        · exact ⟨[.si 0 k []], ⟨[], by decide, fun e he => absurd he (by simp), rfl⟩, ⟨_, _, rfl, ⟨none, 0, rfl, Nat.le_refl _, .inl rfl⟩, rfl⟩, ⟨⟨by decide, fun e he => absurd he (by simp)⟩, trivial⟩, fun v hv => by simp at hv; subst hv; rfl⟩
        · have hle : len ≤ m := by rw [hmm]; split <;> omega
          have key : ∀ i, ∃ z : Int, i < len → W.cell? (a.add i) = some (.int k z) ∧ inR k z := fun i => by
            by_cases hi : i < len
            · obtain ⟨cs', k1, k2⟩ := hx i (by omega)
              obtain ⟨z, rfl, _, hw⟩ := DataW.trod_int he k2
              rw [hc, Nat.mul_one] at k1
              exact ⟨z, fun _ => ⟨cell_of_cells?_one k1, wf_in hw⟩⟩
            · exact ⟨0, fun h => absurd h hi⟩
          let z : Nat → Int := fun i => Classical.choose (key i)
          have hz : ∀ i, i < len → W.cell? (a.add i) = some (.int k (z i)) ∧ inR k (z i) := fun i => Classical.choose_spec (key i)
          have hxs : ((List.range len).map z).length = len := by simp
          have hin : ∀ e ∈ (List.range len).map z, inR k e := fun e he => by
            obtain ⟨i, hi, rfl⟩ := List.mem_map.1 he
            exact (hz i (List.mem_range.1 hi)).2
          have hlm : ((List.range len).map z).length ≤ lenM := by rw [hxs]; exact Nat.le_trans hl hm
          refine ⟨_, ⟨(List.range len).map z, hlm, hin, rfl⟩, ⟨_, _, rfl, ⟨some a, cap, by rw [hxs], by rw [hxs]; exact hl, ?_⟩, rfl⟩, ⟨⟨hlm, hin⟩, trivial⟩, fun v hv => by simp at hv; subst hv; rfl⟩
          by_cases h0 : len = 0
          · exact .inl (by rw [hxs]; exact h0)
          · right
            obtain ⟨bk, off, spot⟩ := a
            have hspot : spot = none := by simpa [Addr.add] using World.cell?_spot (hz 0 (by omega)).1
            subst hspot
            refine ⟨bk, off, rfl, id, Nat.le_refl _, fun j e hj he => ?_⟩
            rw [hxs] at hj
            rw [List.getElem?_map, List.getElem?_range hj] at he
            injection he with he; subst he
            have := (hz j hj).1
            rw [Go.WideShapes.add_plain] at this
            exact this
      · rename_i hno
        split at hf
        · cases hf
        rename_i hc
        rw [if_neg hc]
        rcases open_slice ht h with ⟨rfl, _⟩ | ⟨a, len, cap, m, n, D, Pl, rfl, hb, hl, hm, hmm, _, hx⟩
        · exact ⟨_, ⟨0, fun _ => [], by decide, fun j hj => by omega, fun j => trivial, rfl⟩, ⟨_, _, rfl, ⟨none, 0, rfl, Nat.le_refl _, Nat.pos_of_ne_zero hc, .inl rfl⟩, rfl⟩, ⟨⟨by decide, fun j => trivial⟩, trivial⟩, fun v hv => by simp at hv; subst hv; rfl⟩
        · have hle : len ≤ m := by rw [hmm]; split <;> omega
          refine got_slice (Nat.pos_of_ne_zero hc) hl hm fun i hi => ?_
          obtain ⟨cs', k1, k2⟩ := hx i (by omega)
          exact ⟨cs', k1, ih e n cs' _ hf k2⟩
    · rename_i fs ht
      obtain ⟨xs, n, _, _, hlen, hxl, hx⟩ := DataW.trod_struct ht h
      have := got_fields (P := P) (W := W) (f := form P d) hlen fs.toList 0 hf fun fd hfd hfine => by
        obtain ⟨i, hi⟩ := List.getElem?_of_mem hfd
        have h1 := hx i fd (by simpa using hi)
        have hil : i < xs.length := by rw [hxl]; have := (List.getElem?_eq_some_iff.1 hi).1; simpa using this
        rw [List.getElem?_eq_getElem hil] at h1
        exact ih _ _ _ _ hfine h1
      rwa [List.drop_zero] at this
    · rename_i n e ht
      split at hf
      case isFalse => cases hf
      rename_i hc
      rw [if_pos hc]
      obtain ⟨xs, m, _, _, hlen, hxl, hx⟩ := DataW.trod_array ht h
      have := got_rep (P := P) (W := W) (e := form P d e) (s := P.cellsOf e) (cs := cs) n 0 (by rw [hlen, hc, Nat.zero_add]) fun j hj => by
        have h1 := hx j (by omega)
        rw [List.getElem?_eq_getElem (by omega)] at h1
        exact ih _ _ _ _ hf h1
      rwa [Nat.zero_mul, List.drop_zero] at this
    · cases hf
def arg (F : Form) (c : V) : Prop := match F.is1 with
  | true => shp F [c]
  | false => ∃ cs, shp F cs ∧ c = .agg cs
def args : List Form → List V → Prop
  | [], l => l = []
  | F :: Fs, l => ∃ c cs, arg F c ∧ args Fs cs ∧ l = c :: cs
theorem form_is1 {P : Program} {d : Nat} {t : TypeId} (h : (form P d t).fine = true) : (form P d t).is1 = (match P.underlying t with
    | some (.struct _) => false
    | some (.array _ _) => false
    | _ => true) := by
  cases d with
  | zero => simp [form, Form.fine] at h
  | succ d =>
    unfold form at h ⊢
    cases hu : P.underlying t with
    | none => rw [hu] at h; cases h
    | some ds =>
      rw [hu] at h
      cases ds with
      | bool => rfl
      | int k => rfl
      | string => rfl
      | slice e =>
        simp only at h ⊢
        split at h
        · split at h
          · rename_i hc; rw [if_pos hc]; rfl
          · cases h
        · split at h
          · cases h
          · rename_i hc; rw [if_neg hc]; rfl
      | struct fs =>
        have : ∀ (l : List Field) (off : Nat), (formF P (form P d) (P.cellsOf t) off l).is1 = false := fun l off => by
          cases l <;> simp only [formF] <;> split <;> rfl
        exact this _ _
      | array n e => simp only; split <;> rfl
      | _ => cases h
theorem no_agg {r : Reach} {b0 : Nat} {d : Nat} {t : TypeId} {v : Value} (hf : (form P d t).fine = true) (h1 : (form P d t).is1 = true) (hval : Value.okWide P W r b0 t v) : v.cells = #[v] := by
  have key : ∀ cs, v ≠ .agg cs := by
    rintro cs rfl
    cases d with
    | zero => simp [form, Form.fine] at hf
    | succ d =>
      have hi := form_is1 hf
      rw [h1] at hi
      unfold form at hf
      cases hu : P.underlying t with
      | none => rw [hu] at hf; cases hf
      | some ds =>
        rw [hu] at hf hi
        unfold Value.okWide Cell.okWide at hval
        cases ds <;> simp [hu, Cell.ok] at hval hi hf <;> first | exact hf.elim | cases hf | skip
  cases v <;> first | rfl | exact absurd rfl (key _)
theorem is1_arg {r : Reach} {b0 : Nat} {d : Nat} {t : TypeId} {v : Value} (hf : (form P d t).fine = true) (h1 : (form P d t).is1 = false) (hval : Value.okWide P W r b0 t v) : ∃ cs, v = .agg cs := by
  have hi := form_is1 hf
  rw [h1] at hi
  unfold Value.okWide at hval
  cases hu : P.underlying t with
  | none => rw [hu] at hi; cases hi
  | some ds =>
    rw [hu] at hi hval
    cases ds with
    | struct fs => obtain ⟨cs, h, _⟩ := hval; exact ⟨cs, h⟩
    | array n e => obtain ⟨cs, h, _⟩ := hval; exact ⟨cs, h⟩
    | _ => cases hi
theorem read_arg {r : Reach} {b0 : Nat} {d : Nat} {t : TypeId} {v : Value} {x : DataW H} {ps : List MemPlace} (hf : (form P d t).fine = true) (hval : Value.okWide P W r b0 t v) (hd : DataW.Trod enc P W 0 spare held t v x ps) : ∃ c, arg (form P d t) c ∧ VR (Cx.top P W) c v ∧ c.ok := by
  obtain ⟨fuel, h⟩ := hd
  obtain ⟨c, h1, h2, h3, h4⟩ := read_ok d t fuel _ _ hf h
  unfold arg
  cases h0 : (form P d t).is1 with
  | true =>
    rw [no_agg hf h0 hval] at h2 h4
    obtain ⟨e, es, rfl⟩ : ∃ e es, c = e :: es := by
      cases c with
      | nil => have := h2.length; simp at this
      | cons e es => exact ⟨e, es, rfl⟩
    obtain ⟨u, us, hl, hv, hn⟩ := h2
    have hl : [v] = u :: us := hl
    injection hl with e1 e2
    subst e1 e2
    have : es = [] := by
      cases es with
      | nil => rfl
      | cons a b => obtain ⟨_, _, h, _⟩ := hn; cases h
    subst this
    exact ⟨e, h1, hv, h3.1⟩
  | false =>
    obtain ⟨cs, rfl⟩ := is1_arg hf h0 hval
    exact ⟨.agg c, ⟨c, h1, rfl⟩, ⟨cs.toList, by simp, h2⟩, h3⟩
theorem read_args {r : Reach} {b0 : Nat} {d : Nat} : ∀ (ts : List TypeId) (vs : List Value) (xs : List (DataW H)) (ps : List MemPlace), (ts.all fun t => (form P d t).fine) = true → (∀ (j : Nat) t v, ts[j]? = some t → vs[j]? = some v → Value.okWide P W r b0 t v) → DataW.TrodAll enc P W 0 spare held ts vs xs ps →
    ∃ l, args (ts.map (form P d)) l ∧ VRs (Cx.top P W) l vs ∧ oks l
  | [], vs, xs, ps, _, _, h => by
    obtain ⟨rfl, _, _⟩ := trodAll_nil h
    exact ⟨[], rfl, rfl, trivial⟩
  | t :: ts, vs, xs, ps, hf, hval, h => by
    obtain ⟨v, vs', x, xs', p, q, rfl, rfl, rfl, h1, h2⟩ := trodAll_cons h
    simp only [List.all_cons, Bool.and_eq_true] at hf
    obtain ⟨c, a1, a2, a3⟩ := read_arg hf.1 (hval 0 t v rfl rfl) h1
    obtain ⟨l, b1, b2, b3⟩ := read_args ts vs' xs' q hf.2 (fun j t v ht hv => hval (j + 1) t v (by simpa using ht) (by simpa using hv)) h2
    exact ⟨c :: l, ⟨c, l, a1, b1, rfl⟩, ⟨v, vs', rfl, a2, b2⟩, a3, b3⟩
end
theorem lift_args {H : Type} {enc : TypeId × Value → H} {C : Checked} {os : Os} {f : FuncId} {fn : Func} {s : ChangeSpec} {conds : List PathCond} (own : ownKnob C.prog.godebug = none) (started : os.Started) (hi : C.prog.inits.idxOf? f = none) (hf : C.prog.funcs[f]? = some fn)
    (hw : ∃ (w : World) (tape : Tape) (i : Input), w.os = os ∧ World.Shaped C.prog (w.forCall tape i) ∧ i.vars = [] ∧ Input.okWide C.prog (w.forCall tape i) .any w.heap.size f i ∧ ChangeSpec.pre6 enc C.prog fn s conds false (w.forCall tape i).memory i.args ∧ ({} : Assume).holds C.prog (lone (Frame.enter C.prog f i.args .normal) [] (w.forCall tape i)))
    (hl : laidOutB C.prog = true) {tb : TypeId} (hb : C.prog.underlying tb = some .bool) (hr : fn.resultTypes = #[tb]) (hp : (fn.params.toList.all fun t => C.prog.readableRec t && decide (t < C.prog.types.size)) = true) (hv : s.vars = [])
    (hs : ∀ ds : List (DataW H), ds.length = fn.params.toList.length → s.fn H ds = { results := [.lit (.bool true)], args := ds })
    {d : Nat} (hfine : (fn.params.toList.all fun t => (form C.prog d t).fine) = true) {Fs : List Form} (hFs : fn.params.toList.map (form C.prog d) = Fs)
    (hcall : ∀ l, args Fs l → oks l → CallOk C.prog f l [] fun r _ => r = .b true) :
    ReturnsInHanded {} C os f .any (ChangeSpec.pre6 enc C.prog fn s conds false) (ChangeSpec.post enc C.prog fn s false true false false) := by
  refine lift_true own started hi hf hw hl hb hr hp hv hs fun W base as ds p hval hA => ?_
  obtain ⟨l, h1, h2, h3⟩ := read_args (d := d) _ _ _ _ hfine (fun j t v ht hv => hval j t v (by simpa using ht) (by simpa using hv)) hA
  rw [hFs] at h1
  have := true_of_call (hcall l h1 h3) h2 h3
  simpa using this
end Go.Proofs.Ytkknnloamidaiaa.VI
