import Derived.Test.YtkmkhcmfpbffjaaGreatT5085d2d4
import Derived.Still
namespace Go.Proofs.YtkmkhcmfpbffjaaGreat.VI
set_option linter.unusedVariables false
set_option linter.unusedSimpArgs false
section
variable {R : Type}
def ifk (c : Prop) [Decidable c] (v : V) (k : V → Option R) : Option R := match decide c with
  | true => k v
  | false => none
theorem ifk_eq (c : Prop) [Decidable c] (v : V) (k : V → Option R) : (if c then some v else none : Option V).bind k = ifk c v k := by
  unfold ifk
  by_cases h : c <;> simp [h]
theorem ifk_def (c : Prop) [Decidable c] (v : V) (k : V → Option R) : ifk c v k = if c then k v else none := by
  unfold ifk
  by_cases h : c <;> simp [h]
theorem ite_bind (c : Prop) [Decidable c] (X : Option V) (k : V → Option R) : (if c then X else none).bind k = if c then X.bind k else none := by
  split <;> rfl
def sbink (op : BinOp) (xs ys : List Int) (k : V → Option R) : Option R := match op with
  | .eql => k (.b (xs == ys))
  | .neq => k (.b (!(xs == ys)))
  | .add => ifk (xs.length + ys.length < 2 ^ 62) (.st (xs ++ ys)) k
  | _ => none
theorem sbink_eq (op : BinOp) (xs ys : List Int) (k : V → Option R) : sbink op xs ys k = (sbin op xs ys).bind k := by
  cases op <;> first | rfl | (simp only [sbink, sbin]; rw [ifk_eq])
def vbink (op : BinOp) (X : Option V) (c d : V) (k : V → Option R) : Option R :=
  match c with
  | .st xs => match d with
    | .st ys => sbink op xs ys k
    | .s b => sbink op xs (bys b) k
    | _ => X.bind k
  | .s a => match d with
    | .st ys => sbink op (bys a) ys k
    | _ => X.bind k
  | .i ka a => match d with
    | .i kb b => match op with
      | .shl => ifk (0 ≤ b) (.i ka (ka.wrap (a * 2 ^ min b.toNat ka.bits))) k
      | .shr => ifk (0 ≤ b) (.i ka (a / 2 ^ min b.toNat ka.bits)) k
      | .quo => if ka = kb then (match b == 0 with
        | true => none
        | false => k (.i ka (ka.wrap (a.tdiv b)))) else none
      | .rem => if ka = kb then (match b == 0 with
        | true => none
        | false => k (.i ka (a.tmod b))) else none
      | _ => X.bind k
    | _ => X.bind k
  | _ => X.bind k
theorem vbink_eq (P : Program) (op : BinOp) (t : TypeId) (c d : V) (k : V → Option R) : vbink op (vbinx P op t c d) c d k = (vbinx P op t c d).bind k := by
  unfold vbink
  split
  · split
    · exact sbink_eq _ _ _ _
    · exact sbink_eq _ _ _ _
    · rfl
  · split
    · exact sbink_eq _ _ _ _
    · rfl
  · split
    · split
      · rw [← ifk_eq]; rfl
      · rw [← ifk_eq]; rfl
      · simp only [vbinx, vbin]
        repeat' split
        all_goals simp_all
      · simp only [vbinx, vbin]
        repeat' split
        all_goals simp_all
      · rfl
    · rfl
  · rfl
def offk : Nat → Nat → Nat → (Nat → Option R) → Option R
  | 0, _, _, _ => none
  | n + 1, j, off, k => match Nat.beq off j with
    | true => k j
    | false => offk n (j + 1) off k
theorem offk_eq (off : Nat) (k : Nat → Option R) : ∀ n j, j ≤ off → off < j + n → offk n j off k = k off
  | 0, j, h1, h2 => by omega
  | n + 1, j, h1, h2 => by
    simp only [offk]
    cases hb : Nat.beq off j with
    | true => rw [Nat.eq_of_beq_eq_true hb]
    | false =>
      have : off ≠ j := Nat.ne_of_beq_eq_false hb
      exact offk_eq off k n (j + 1) (by omega) (by omega)
theorem offk_none (off : Nat) (k : Nat → Option R) : ∀ n j, j + n ≤ off → offk n j off k = none
  | 0, j, h => rfl
  | n + 1, j, h => by
    simp only [offk]
    cases hb : Nat.beq off j with
    | true => have := Nat.eq_of_beq_eq_true hb; omega
    | false => exact offk_none off k n (j + 1) (by omega)
def vloadk (P : Program) (h : Heap) (t : TypeId) (c : V) (k : V → Option R) : Option R :=
  match c with
  | .ref id gen off => match blkOf h id gen with
    | some b => match b.d with
      | .list cs => offk (cs.length + 1) 0 off fun j => (vload P t cs j).bind k
      | .ints kk xs => match aggOf P t with
        | some false => ifk (off < xs.length) (.i kk (xs.getD off 0)) k
        | _ => none
      | .recs _ _ _ => none
      | .mix pre kk xs => match P.underlying t with
        | some (.int _) => ifk (pre.length ≤ off ∧ off < pre.length + xs.length) (.i kk (xs.getD (off - pre.length) 0)) k
        | _ => match aggOf P t with
          | some false => (pre[off]?).bind k
          | some true => match szOf P t with
            | some n => match off with
              | 0 => ifk (n = pre.length + xs.length) (.agg (pre ++ xsV kk xs 0 (n - pre.length))) k
              | o + 1 => ifk (pre.length ≤ o + 1 ∧ o + 1 + n ≤ pre.length + xs.length) (.agg (xsV kk xs (o + 1 - pre.length) n)) k
            | none => none
          | none => none
      | .bm _ _ => none
    | none => none
  | .rrf id gen row sz fld => match blkOf h id gen with
    | some b => match b.d with
      | .recs n s g => if s = sz then (match decide (row < n) with
        | true => (vload P t (fit s (g row)) fld).bind k
        | false => none) else none
      | _ => none
    | none => none
  | c => (vloadAt P h t c).bind k
theorem vloadk_eq (P : Program) (h : Heap) (t : TypeId) (c : V) (k : V → Option R) : vloadk P h t c k = (vloadAt P h t c).bind k := by
  unfold vloadk
  split
  · rename_i id gen off
    simp only [vloadAt]
    cases blkOf h id gen with
    | none => rfl
    | some b =>
      simp only [vloadD]
      cases b.d with
      | list cs =>
        simp only
        rcases Nat.lt_or_ge off (cs.length + 1) with hl | hl
        · exact offk_eq off _ _ 0 (by omega) (by omega)
        · rw [offk_none off _ _ 0 (by omega)]
          have : vload P t cs off = none := by
            unfold vload
            split
            · rw [if_neg (by omega)]
            · exact List.getElem?_eq_none (by omega)
            · rfl
          rw [this]; rfl
      | ints kk xs =>
        simp only
        cases aggOf P t with
        | none => rfl
        | some b => cases b with
          | true => rfl
          | false => simp only; rw [ifk_eq]
      | recs n s g => rfl
      | bm _ _ => rfl
      | mix pre kk xs =>
        simp only
        have other : (match aggOf P t with
            | some false => (pre[off]?).bind k
            | some true => match szOf P t with
              | some n => match off with
                | 0 => ifk (n = pre.length + xs.length) (.agg (pre ++ xsV kk xs 0 (n - pre.length))) k
                | o + 1 => ifk (pre.length ≤ o + 1 ∧ o + 1 + n ≤ pre.length + xs.length) (.agg (xsV kk xs (o + 1 - pre.length) n)) k
              | none => none
            | none => none) = ((match aggOf P t with
            | some false => pre[off]?
            | some true => match szOf P t with
              | some n => match off with
                | 0 => if n = pre.length + xs.length then some (.agg (pre ++ xsV kk xs 0 (n - pre.length))) else none
                | o + 1 => if pre.length ≤ o + 1 ∧ o + 1 + n ≤ pre.length + xs.length then some (.agg (xsV kk xs (o + 1 - pre.length) n)) else none
              | none => none
            | none => none : Option V).bind k : Option R) := by
          cases aggOf P t with
          | none => rfl
          | some b => cases b with
            | false => rfl
            | true => cases szOf P t with
              | none => rfl
              | some n => cases off with
                | zero => exact (ifk_eq _ _ _).symm
                | succ o => exact (ifk_eq _ _ _).symm
        cases P.underlying t with
        | none => exact other
        | some d => cases d with
          | int kx => exact (ifk_eq _ _ _).symm
          | _ => exact other
  · rename_i id gen row sz fld
    simp only [vloadAt]
    cases blkOf h id gen with
    | none => rfl
    | some b =>
      simp only [vloadR]
      cases b.d with
      | recs n s g =>
        simp only
        by_cases h1 : s = sz
        · by_cases h2 : row < n
          · rw [if_pos h1, if_pos ⟨h1, h2⟩, decide_eq_true h2]
          · rw [if_pos h1, if_neg (fun h => h2 h.2), decide_eq_false h2]; rfl
        · rw [if_neg h1, if_neg (fun h => h1 h.1)]; rfl
      | _ => rfl
  · rfl
def vstorek (P : Program) (h : Heap) (t : TypeId) (a c : V) (k : Heap → Option R) : Option R :=
  match a with
  | .ref id gen off => match blkOf h id gen, vcells c, szOf P t with
    | some b, some vs, some n => if vs.length = n ∧ vs.all okc = true ∧ b.wr = true then (match b.d with
      | .list cs => offk (cs.length + 1) 0 off fun j => match vlayD (.list cs) j vs with
        | some d => k (h.set id { b with d := d })
        | none => none
      | .ints kk xs => match vs with
        | [.i k' y] => if kk = k' then (match decide (off < xs.length) with
          | true => k (h.set id { b with d := .ints kk (xs.set off y) })
          | false => none) else none
        | _ => none
      | .recs _ _ _ => none
      | .mix pre kk xs => match vs with
        | [.i k' y] => if kk = k' then (match decide (pre.length ≤ off ∧ off < pre.length + xs.length) with
          | true => k (h.set id { b with d := .mix pre kk (xs.set (off - pre.length) y) })
          | false => none) else none
        | [c] => if off < pre.length then k (h.set id { b with d := .mix (pre.set off c) kk xs }) else none
        | vs => match asInts kk (vs.drop pre.length) with
          | some ys => (match decide (off = 0 ∧ ys.length = xs.length ∧ pre.length ≤ vs.length) with
            | true => k (h.set id { b with d := .mix (vs.take pre.length) kk ys })
            | false => none)
          | none => none
      | .bm _ _ => none) else none
    | _, _, _ => none
  | .rrf id gen row sz fld => match blkOf h id gen, vcells c, szOf P t with
    | some b, some vs, some n => if vs.length = n ∧ vs.all okc = true ∧ b.wr = true then (match b.d with
      | .recs n s g => if s = sz then (match decide (row < n) with
        | true => if fld + vs.length ≤ s ∧ vs.all bareOk = true then k (h.set id { b with d := .recs n s (upd g row (lay (fit s (g row)) fld vs)) }) else none
        | false => none) else none
      | _ => none) else none
    | _, _, _ => none
  | _ => none
theorem vstorek_eq (P : Program) (h : Heap) (t : TypeId) (a c : V) (k : Heap → Option R) : vstorek P h t a c k = (vstoreAt P h t a c).bind k := by
  unfold vstorek vstoreAt
  cases a with
  | ref id gen off =>
    simp only
    cases blkOf h id gen with
    | none => rfl
    | some b =>
      cases vcells c with
      | none => rfl
      | some vs =>
        cases szOf P t with
        | none => rfl
        | some n =>
          simp only
          by_cases hc : vs.length = n ∧ vs.all okc = true ∧ b.wr = true
          · rw [if_pos hc, if_pos hc]
            cases hd : b.d with
            | list cs =>
              simp only
              rcases Nat.lt_or_ge off (cs.length + 1) with hl | hl
              · rw [offk_eq off _ _ 0 (by omega) (by omega)]
                cases vlayD (.list cs) off vs <;> rfl
              · rw [offk_none off _ _ 0 (by omega)]
                have : vlayD (.list cs) off vs = none := by
                  simp only [vlayD]; rw [if_neg (by omega)]
                rw [this]; rfl
            | ints kk xs =>
              simp only [vlayD]
              cases vs with
              | nil => rfl
              | cons v vs =>
                cases vs with
                | cons w vs => cases v <;> rfl
                | nil =>
                  cases v with
                  | i k' y =>
                    dsimp only
                    by_cases h1 : kk = k'
                    · by_cases h2 : off < xs.length
                      · rw [if_pos h1, if_pos ⟨h1, h2⟩, decide_eq_true h2]; rfl
                      · rw [if_pos h1, if_neg (fun h => h2 h.2), decide_eq_false h2]; rfl
                    · rw [if_neg h1, if_neg (fun h => h1 h.1)]; rfl
                  | _ => rfl
            | recs n s g => rfl
            | bm _ _ => rfl
            | mix pre kk xs =>
              have many : ∀ vs : List V, (match asInts kk (vs.drop pre.length) with
                  | some ys => (match decide (off = 0 ∧ ys.length = xs.length ∧ pre.length ≤ vs.length) with
                    | true => k (h.set id { b with d := .mix (vs.take pre.length) kk ys })
                    | false => none)
                  | none => none) = ((match (match asInts kk (vs.drop pre.length) with
                    | some ys => if off = 0 ∧ ys.length = xs.length ∧ pre.length ≤ vs.length then some (D.mix (vs.take pre.length) kk ys) else none
                    | none => none) with
                  | some d => some (h.set id { b with d := d })
                  | none => none).bind k : Option R) := fun vs => by
                cases asInts kk (vs.drop pre.length) with
                | none => rfl
                | some ys =>
                  dsimp only
                  by_cases h1 : off = 0 ∧ ys.length = xs.length ∧ pre.length ≤ vs.length
                  · rw [if_pos h1, decide_eq_true h1]; rfl
                  · rw [if_neg h1, decide_eq_false h1]; rfl
              simp only [vlayD]
              cases vs with
              | nil => exact many []
              | cons v vs =>
                cases vs with
                | cons w vs => cases v <;> exact many _
                | nil =>
                  cases v with
                  | i k' y =>
                    dsimp only
                    by_cases h1 : kk = k'
                    · by_cases h2 : pre.length ≤ off ∧ off < pre.length + xs.length
                      · rw [if_pos h1, if_pos ⟨h1, h2⟩, decide_eq_true h2]; rfl
                      · rw [if_pos h1, if_neg (fun h => h2 h.2), decide_eq_false h2]; rfl
                    · rw [if_neg h1, if_neg (fun h => h1 h.1)]; rfl
                  | _ =>
                    dsimp only
                    split <;> rfl
          · rw [if_neg hc, if_neg hc]; rfl
  | rrf id gen row sz fld =>
    simp only
    cases blkOf h id gen with
    | none => rfl
    | some b =>
      cases vcells c with
      | none => rfl
      | some vs =>
        cases szOf P t with
        | none => rfl
        | some n =>
          simp only
          by_cases hc : vs.length = n ∧ vs.all okc = true ∧ b.wr = true
          · rw [if_pos hc, if_pos hc]
            cases hd : b.d with
            | recs m s g =>
              simp only [vlayR]
              by_cases h1 : s = sz
              · subst h1
                by_cases h2 : row < m
                · simp only [h2, decide_true, and_self, if_true]
                  by_cases h3 : fld + vs.length ≤ s ∧ vs.all bareOk = true
                  · simp only [if_pos h3]; rfl
                  · simp only [if_neg h3]; rfl
                · simp only [h2, decide_false, and_false, if_false, if_true]; rfl
              · simp only [h1, false_and, if_false]; rfl
            | _ => rfl
          · rw [if_neg hc, if_neg hc]; rfl
  | _ => rfl
def ifk2 (c : Prop) [Decidable c] (v : V) (h : Heap) (k : V → Heap → Option R) : Option R := match decide c with
  | true => k v h
  | false => none
theorem ifk2_eq (c : Prop) [Decidable c] (v : V) (h : Heap) (k : V → Heap → Option R) : ifk2 c v h k = (if c then some (v, h) else none : Option (V × Heap)).bind fun p => k p.1 p.2 := by
  unfold ifk2
  by_cases h : c <;> simp [h]
def vmakek (P : Program) (h : Heap) (id : Nat) (t : TypeId) (c : V) (k : V → Heap → Option R) : Option R :=
  match c with
  | .i _ n => match P.underlying t with
    | some (.slice elem) => match szOf P elem, bytesOf P elem, zcells P elem with
      | some (s + 1), some b, some zs => if zs.length = s + 1 ∧ b ≤ 65536 ∧ blank h id = true then ifk2 (0 ≤ n ∧ n ≤ 1073741824) (.own id 1 0 n.toNat (s + 1)) (newb h id elem (zD zs n.toNat)) k else none
      | _, _, _ => none
    | _ => none
  | _ => none
theorem vmakek_eq (P : Program) (h : Heap) (id : Nat) (t : TypeId) (c : V) (k : V → Heap → Option R) : vmakek P h id t c k = (vmake P h id t c).bind fun p => k p.1 p.2 := by
  unfold vmakek vmake
  cases c with
  | i _ n =>
    simp only
    cases P.underlying t with
    | none => rfl
    | some d => cases d with
      | slice elem =>
        simp only
        cases szOf P elem with
        | none => rfl
        | some s => cases s with
          | zero => cases bytesOf P elem <;> cases zcells P elem <;> rfl
          | succ s => cases bytesOf P elem with
            | none => rfl
            | some b => cases zcells P elem with
              | none => rfl
              | some zs =>
                simp only
                by_cases hc : zs.length = s + 1 ∧ b ≤ 65536 ∧ blank h id = true
                · rw [if_pos hc, if_pos hc]; exact ifk2_eq _ _ _ _
                · rw [if_neg hc, if_neg hc]; rfl
      | _ => rfl
  | _ => rfl
def vapxk (P : Program) (h : Heap) (sz : Nat) (zs : List V) (xt : TypeId) (x : V) (k : Nat → D → Option R) : Option R :=
  match P.underlying xt with
  | some (.int _) => match x with
    | .i _ n => match decide (0 ≤ n ∧ n ≤ 1073741824) with
      | true => k n.toNat (zD zs n.toNat)
      | false => none
    | _ => none
  | some _ => match vsrc h sz x with
    | some (m, d) => k m d
    | none => none
  | none => none
theorem vapxk_eq (P : Program) (h : Heap) (sz : Nat) (zs : List V) (xt : TypeId) (x : V) (k : Nat → D → Option R) : vapxk P h sz zs xt x k = (vapx P h sz zs xt x).bind fun p => k p.1 p.2 := by
  unfold vapxk vapx
  cases P.underlying xt with
  | none => rfl
  | some d =>
    cases d with
    | int _ =>
      cases x with
      | i _ n =>
        simp only
        by_cases hn : 0 ≤ n ∧ n ≤ 1073741824
        · rw [if_pos hn, decide_eq_true hn]; rfl
        · rw [if_neg hn, decide_eq_false hn]; rfl
      | _ => rfl
    | _ => simp only; cases vsrc h sz x <;> rfl
def vappendk (P : Program) (h : Heap) (id : Nat) (st xt : TypeId) (s x : V) (k : V → Heap → Option R) : Option R :=
  match P.underlying st with
  | some (.slice elem) => match szOf P elem, bytesOf P elem, zcells P elem with
    | some (z + 1), some (b + 1), some zs => if zs.length = z + 1 ∧ b < 65536 then (match vbase h id (z + 1) elem s with
      | some (bid, g, n, d1) => vapxk P h (z + 1) zs xt x fun m d2 => match catD (z + 1) n d1 m (nilD P elem d2) with
        | some d => ifk2 (n + m ≤ 1073741824) (.own bid g 0 (n + m) (z + 1)) (newg h bid g elem d) k
        | none => none
      | none => none) else none
    | _, _, _ => none
  | _ => none
theorem vappendk_eq (P : Program) (h : Heap) (id : Nat) (st xt : TypeId) (s x : V) (k : V → Heap → Option R) : vappendk P h id st xt s x k = (vappend P h id st xt s x).bind fun p => k p.1 p.2 := by
  unfold vappendk vappend
  cases P.underlying st with
  | none => rfl
  | some d => cases d with
    | slice elem =>
      simp only
      cases szOf P elem with
      | none => rfl
      | some z => cases z with
        | zero => cases bytesOf P elem <;> cases zcells P elem <;> rfl
        | succ z => cases bytesOf P elem with
          | none => rfl
          | some b => cases b with
            | zero => cases zcells P elem <;> rfl
            | succ b => cases zcells P elem with
              | none => rfl
              | some zs =>
                simp only
                by_cases hc : zs.length = z + 1 ∧ b < 65536
                · rw [if_pos hc, if_pos hc]
                  cases vbase h id (z + 1) elem s with
                  | none => rfl
                  | some q =>
                    obtain ⟨bid, g, n, d1⟩ := q
                    simp only [vapxk_eq]
                    cases vapx P h (z + 1) zs xt x with
                    | none => rfl
                    | some q =>
                      obtain ⟨m, d2⟩ := q
                      simp only [Option.bind_some]
                      cases catD (z + 1) n d1 m (nilD P elem d2) with
                      | none => rfl
                      | some d => exact ifk2_eq _ _ _ _
                · rw [if_neg hc, if_neg hc]; rfl
    | _ => rfl
def vindexAddrk (P : Program) (h : Heap) (t : TypeId) (c ix : V) (k : V → Option R) : Option R :=
  match ix with
  | .i _ j => match P.underlying t with
    | some (.slice elem) => match szOf P elem with
      | some sz => match c with
        | .sl n s cs => if s = sz then ifk (0 ≤ j ∧ j < (n : Int)) (.pl ((cs.drop (j.toNat * s)).take s)) k else none
        | .si n kk xs => if sz = 1 then ifk (0 ≤ j ∧ j < (n : Int)) (.pl [.i kk (xs.getD j.toNat 0)]) k else none
        | .sr n s g => if s = sz then ifk (0 ≤ j ∧ j < (n : Int)) (.pl (g j.toNat)) k else none
        | .own id gen off n s => if s = sz ∧ cur h id gen = true then ifk (0 ≤ j ∧ j < (n : Int)) (rowAt h id gen off s j.toNat) k else none
        | _ => none
      | none => none
    | some (.array len elem) => match szOf P elem with
      | some sz => match c with
        | .ref id gen off => if cur h id gen = true then ifk (0 ≤ j ∧ j < (len : Int)) (.ref id gen (off + j.toNat * sz)) k else none
        | .pl cs => ifk (0 ≤ j ∧ j < (len : Int)) (.pl (cs.drop (j.toNat * sz))) k
        | _ => none
      | none => none
    | _ => none
  | _ => none
theorem vindexAddrk_eq (P : Program) (h : Heap) (t : TypeId) (c ix : V) (k : V → Option R) : vindexAddrk P h t c ix k = (vindexAddr P h t c ix).bind k := by
  unfold vindexAddrk vindexAddr
  cases ix with
  | i _ j =>
    simp only
    cases P.underlying t with
    | none => rfl
    | some d =>
      cases d with
      | slice elem =>
        simp only
        cases szOf P elem with
        | none => rfl
        | some sz => cases c <;> first | rfl | simp only [ite_bind, ifk_def, Option.bind_some]
      | array len elem =>
        simp only
        cases szOf P elem with
        | none => rfl
        | some sz => cases c <;> first | rfl | simp only [ite_bind, ifk_def, Option.bind_some]
      | _ => rfl
  | _ => rfl
def vindexk (P : Program) (t : TypeId) (c ix : V) (k : V → Option R) : Option R :=
  match ix with
  | .i _ j => match P.underlying t with
    | some (.array len elem) => match c with
      | .agg cs => match szOf P elem with
        | some sz => match decide (0 ≤ j ∧ j < (len : Int)) with
          | true => offk len 0 j.toNat fun i => (vpart P elem cs (i * sz)).bind k
          | false => none
        | none => none
      | _ => none
    | some .string => match c with
      | .s a => ifk (0 ≤ j ∧ j < (a.size : Int)) (.i .u8 ((a.data.toList.getD j.toNat 0).toNat : Int)) k
      | .st xs => ifk (0 ≤ j ∧ j < (xs.length : Int)) (.i .u8 (xs.getD j.toNat 0)) k
      | _ => none
    | _ => none
  | _ => none
theorem vindexk_eq (P : Program) (t : TypeId) (c ix : V) (k : V → Option R) : vindexk P t c ix k = (vindex P t c ix).bind k := by
  unfold vindexk vindex
  cases ix with
  | i _ j =>
    simp only
    cases P.underlying t with
    | none => rfl
    | some d =>
      cases d with
      | array len elem =>
        simp only
        cases c with
        | agg cs =>
          simp only
          cases szOf P elem with
          | none => rfl
          | some sz =>
            simp only
            by_cases h : 0 ≤ j ∧ j < (len : Int)
            · simp only [h, and_self, decide_true, if_true]
              exact offk_eq _ _ _ _ (Nat.zero_le _) (by omega)
            · simp [h]
        | _ => rfl
      | string => cases c <;> first | rfl | (simp only [ite_bind, ifk_def, Option.bind_some])
      | _ => rfl
  | _ => rfl
def bnds (l m n : Int) : Prop := 0 ≤ l ∧ l ≤ m ∧ m ≤ n
instance (l m n : Int) : Decidable (bnds l m n) := inferInstanceAs (Decidable (_ ∧ _ ∧ _))
def vslicek (P : Program) (h : Heap) (t : TypeId) (c : V) (lo hi mx : Option V) (k : V → Option R) : Option R :=
  match P.underlying t with
  | some (.slice elem) => match szOf P elem with
    | some (z + 1) => match mx with
      | none => match c with
        | .sl n s cs => if s = z + 1 then (match oint 0 lo, oint n hi with
          | some l, some m => ifk (0 ≤ l ∧ l ≤ m ∧ m ≤ n) (.sl (m.toNat - l.toNat) s ((cs.drop (l.toNat * s)).take ((m.toNat - l.toNat) * s))) k
          | _, _ => none) else none
        | .si n kk xs => if 1 = z + 1 then (match oint 0 lo, oint n hi with
          | some l, some m => ifk (0 ≤ l ∧ l ≤ m ∧ m ≤ n) (.si (m.toNat - l.toNat) kk ((xs.drop l.toNat).take (m.toNat - l.toNat))) k
          | _, _ => none) else none
        | .sr n s g => if s = z + 1 then (match oint 0 lo, oint n hi with
          | some l, some m => ifk (0 ≤ l ∧ l ≤ m ∧ m ≤ n) (.sr (m.toNat - l.toNat) s (fun j => g (l.toNat + j))) k
          | _, _ => none) else none
        | .own id gen off n s => if s = z + 1 ∧ cur h id gen = true then (match oint 0 lo, oint n hi with
          | some l, some m => ifk (0 ≤ l ∧ l ≤ m ∧ m ≤ n) (.own id gen (off + l.toNat * s) (m.toNat - l.toNat) s) k
          | _, _ => none) else none
        | _ => none
      | some _ => (vslice P h t c lo hi mx).bind k
    | _ => none
  | some .string => match c, mx with
    | .s a, none => match oint 0 lo, oint a.size hi with
      | some l, some m => ifk (0 ≤ l ∧ l ≤ m ∧ m ≤ a.size) (.s (a.extract l.toNat m.toNat)) k
      | _, _ => none
    | _, _ => none
  | _ => none
theorem vslicek_eq (P : Program) (h : Heap) (t : TypeId) (c : V) (lo hi mx : Option V) (k : V → Option R) : vslicek P h t c lo hi mx k = (vslice P h t c lo hi mx).bind k := by
  unfold vslicek
  cases hu : P.underlying t with
  | none => simp only [vslice, hu]; rfl
  | some d =>
    cases d with
    | slice elem =>
      simp only
      cases hs : szOf P elem with
      | none => simp only [vslice, hu, hs]; rfl
      | some z =>
        cases z with
        | zero => simp only [vslice, hu, hs]; rfl
        | succ z =>
          cases mx with
          | some q => rfl
          | none =>
            simp only [vslice, hu, hs]
            cases c <;> first | rfl | (simp only [ite_bind]; split <;> first | rfl | (generalize oint 0 lo = L; generalize oint _ hi = H; cases L <;> cases H <;> first | rfl | simp only [ite_bind, ifk_def, Option.bind_some]))
    | string =>
      simp only [vslice, hu]
      cases c with
      | s a =>
        cases mx with
        | some q => rfl
        | none =>
          have key : ∀ L H : Option Int, (match L, H with
              | some l, some m => ifk (0 ≤ l ∧ l ≤ m ∧ m ≤ (a.size : Int)) (.s (a.extract l.toNat m.toNat)) k
              | _, _ => none) = (match L, H with
              | some l, some m => if 0 ≤ l ∧ l ≤ m ∧ m ≤ (a.size : Int) then some (.s (a.extract l.toNat m.toNat)) else none
              | _, _ => none : Option V).bind k := by
            intro L H
            cases L <;> cases H <;> first | rfl | simp only [ite_bind, ifk_def, Option.bind_some]
          exact key _ _
      | _ => rfl
    | _ => simp only [vslice, hu]; rfl
end
end Go.Proofs.YtkmkhcmfpbffjaaGreat.VI

namespace Go.Proofs.YtkmkhcmfpbffjaaGreat.VI
set_option linter.unusedVariables false
set_option linter.unusedSimpArgs false
section
variable {R : Type}
def frL : List V → (List V → R) → R
  | [], k => k []
  | c :: l, k => match c with
    | .i kk n => frL l fun l => k (.i kk n :: l)
    | .b t => frL l fun l => k (.b t :: l)
    | .u => frL l fun l => k (.u :: l)
    | .own id gen off n sz => frL l fun l => k (.own id gen off n sz :: l)
    | .ref id gen off => frL l fun l => k (.ref id gen off :: l)
    | .si n kk xs => frL l fun l => k (.si n kk xs :: l)
    | c => frL l fun l => k (c :: l)
theorem frL_eq : ∀ (l : List V) (k : List V → R), frL l k = k l
  | [], _ => rfl
  | c :: l, k => by cases c <;> exact frL_eq l _
def frV (c : V) (k : V → R) : R := match c with
  | .i kk n => k (.i kk n)
  | .b t => k (.b t)
  | .u => k .u
  | .agg cs => frL cs fun cs => k (.agg cs)
  | .tup cs => frL cs fun cs => k (.tup cs)
  | .pl cs => frL cs fun cs => k (.pl cs)
  | .ref id gen off => k (.ref id gen off)
  | .own id gen off n sz => k (.own id gen off n sz)
  | c => k c
theorem frV_eq (c : V) (k : V → R) : frV c k = k c := by cases c <;> first | rfl | exact frL_eq _ _
def frS : List V → Nat → V → (List V → R) → R
  | [], _, _, k => k []
  | _ :: l, 0, c, k => k (c :: l)
  | x :: l, n + 1, c, k => frS l n c fun l => k (x :: l)
theorem frS_eq : ∀ (l : List V) (n : Nat) (c : V) (k : List V → R), frS l n c k = k (l.set n c)
  | [], _, _, _ => rfl
  | _ :: _, 0, _, _ => rfl
  | _ :: l, n + 1, c, k => frS_eq l n c _
def frB (b : Blk) (k : Blk → R) : R := match b with
  | ⟨gen, elem, d, wr⟩ => match d with
    | .list cs => frL cs fun cs => k ⟨gen, elem, .list cs, wr⟩
    | .mix pre kk xs => frL pre fun pre => k ⟨gen, elem, .mix pre kk xs, wr⟩
    | d => k ⟨gen, elem, d, wr⟩
theorem frB_eq (b : Blk) (k : Blk → R) : frB b k = k b := by
  obtain ⟨gen, elem, d, wr⟩ := b
  cases d
  · exact frL_eq _ _
  · rfl
  · rfl
  · exact frL_eq _ _
  · rfl
def frH : Heap → (Heap → R) → R
  | [], k => k []
  | b :: l, k => frB b fun b => frH l fun l => k (b :: l)
theorem frH_eq : ∀ (l : Heap) (k : Heap → R), frH l k = k l
  | [], _ => rfl
  | b :: l, k => by simp only [frH, frB_eq]; exact frH_eq l _
end
end Go.Proofs.YtkmkhcmfpbffjaaGreat.VI

namespace Go.Proofs.YtkmkhcmfpbffjaaGreat.VI
set_option linter.unusedVariables false
set_option linter.unusedSimpArgs false
structure St where
  t : List V
  h : Heap
inductive Ex where
  | normal
  | exit (id : Nat)
  | ret
def kn (s : St) (d : Nat) (x : Bool) : St := ⟨s.t.set d (.b x), s.h⟩
theorem kn_eq {s : St} {d : Nat} {x : Bool} (h : s.t.getD d .u = .b x) : kn s d x = s := by
  unfold kn
  have : s.t.set d (.b x) = s.t := by
    apply List.ext_getElem?
    intro i
    rw [List.getElem?_set]
    rw [List.getD_eq_getElem?_getD] at h
    split
    · rename_i e; subst e
      cases hc : s.t[d]? with
      | none => rw [hc] at h; cases h
      | some c =>
        rw [hc] at h
        simp only [Option.getD_some] at h
        subst h
        rw [if_pos (List.getElem?_eq_some_iff.1 hc).1]
    · rfl
  rw [this]
def kno (s : St) (c : Operand) (x : Bool) : St := match c with
  | .tmp n => kn s n x
  | _ => s
theorem kno_eq {s : St} {c : Operand} {x : Bool} (h : ev s.t c = .b x) : kno s c x = s := by
  cases c with
  | tmp n => exact kn_eq h
  | _ => rfl
def nal (P : Program) (C : Orc) : Op → Nat
  | .alloc _ => 1
  | .box _ _ => 1
  | .buildSlice _ _ _ => 1
  | .makeSlice _ _ _ => 1
  | .makeMap _ _ => 1
  | .convert s d _ => match toBys P s d with
    | true => 1
    | false => 0
  | .call { callee := .builtin .append, args := _, argTypes := _ } => 1
  | .call { callee := .value (.func f), args := _, argTypes := _ } => match C f with
    | some en => en.nf
    | none => 0
  | _ => 0
def nallocs (P : Program) (C : Orc) : List Oper → Nat
  | [] => 0
  | o :: l => nal P C o.op + nallocs P C l
def blankB : Blk := ⟨0, 0, .list [], false⟩
def blanks : Nat → Heap
  | 0 => []
  | n + 1 => blankB :: blanks n
section
variable {R : Type} (P : Program) (C : Orc)
def opk (id : Nat) (e : Operand → V) (h : Heap) (k : V → Heap → Option R) : Op → Option R
  | .call c => match c.callee with
    | .value _ => callk P C h id e c k
    | .builtin .append => match c.args.toList, c.argTypes.toList with
      | [a, b], [st, xt] => vappendk P h id st xt (e a) (e b) k
      | _, _ => none
    | _ => (opv P h id e (.call c)).bind fun p => k p.1 p.2
  | .binOp op t a b _ => vbink op (vbinx P op t (wk h (e a)) (wk h (e b))) (wk h (e a)) (wk h (e b)) fun r => k r h
  | .load t a => vloadk P h t (e a) fun r => k r h
  | .store t a c => vstorek P h t (e a) (e c) fun h' => k .u h'
  | .makeSlice t l c => if sameOp l c = true then vmakek P h id t (e l) k else none
  | .indexAddr t a i => vindexAddrk P h t (e a) (e i) fun r => k r h
  | .index t a i => vindexk P t (e a) (e i) fun r => k r h
  | .slice t a lo hi mx => vslicek P h t (e a) (lo.map e) (hi.map e) (mx.map e) fun r => k r h
  | op => (opv P h id e op).bind fun p => k p.1 p.2
theorem bind_pr (X : Option V) (h : Heap) (k : V → Heap → Option R) : (X.bind fun r => k r h) = (X.bind fun r => some (r, h)).bind fun p => k p.1 p.2 := by
  cases X <;> rfl
theorem opk_plain {P : Program} {C : Orc} {id : Nat} {e : Operand → V} {h : Heap} {k : V → Heap → Option R} {op : Op} (hc : ∀ fo as ts, op ≠ .call { callee := .value fo, args := as, argTypes := ts }) :
    opk P C id e h k op = (opv P h id e op).bind fun p => k p.1 p.2 := by
  cases op with
  | call c =>
    obtain ⟨callee, as, ts⟩ := c
    cases callee with
    | value fo => exact absurd rfl (hc fo as ts)
    | builtin b => cases b with
      | append =>
        simp only [opk, opv]
        rcases as.toList with _ | ⟨a, _ | ⟨b, _ | _⟩⟩ <;> rcases ts.toList with _ | ⟨s, _ | ⟨t, _ | _⟩⟩ <;> first | rfl | exact vappendk_eq _ _ _ _ _ _ _ _
      | _ => rfl
    | _ => rfl
  | store t a c => simp only [opk, opv, vstorek_eq]; cases vstoreAt P h t (e a) (e c) <;> rfl
  | makeSlice t l c =>
    simp only [opk, opv]
    split
    · exact vmakek_eq _ _ _ _ _ _
    · rfl
  | binOp op t a b t2 => simp only [opk, opv, vbink_eq]; exact bind_pr _ _ _
  | load t a => simp only [opk, opv, vloadk_eq]; exact bind_pr _ _ _
  | indexAddr t a i => simp only [opk, opv, vindexAddrk_eq]; exact bind_pr _ _ _
  | index t a i => simp only [opk, opv, vindexk_eq]; exact bind_pr _ _ _
  | slice t a lo hi mx => simp only [opk, opv, vslicek_eq]; exact bind_pr _ _ _
  | _ => rfl
def isW : Op → Bool
  | .makeSlice _ _ _ => true
  | .convert _ _ _ => true
  | .alloc _ => true
  | .box _ _ => true
  | .buildSlice _ _ _ => true
  | .store _ _ _ => true
  | .makeMap _ _ => true
  | .insert _ _ _ _ => true
  | .call _ => true
  | _ => false
def fin (o : Oper) (s : St) (k : St → Option R) (r : V) (h : Heap) : Option R :=
  match o.dst with
  | some d => frV r fun r => frS s.t d r fun t => match isW o.op with
    | true => frH h fun h => k ⟨t, h⟩
    | false => k ⟨t, h⟩
  | none => match isW o.op with
    | true => frH h fun h => k ⟨s.t, h⟩
    | false => k ⟨s.t, h⟩
theorem fin_eq (o : Oper) (s : St) (k : St → Option R) : fin o s k = fun r h => k ⟨putt s.t o.dst r, h⟩ := by
  funext r h
  unfold fin
  cases o.dst with
  | none => cases isW o.op <;> simp [frH_eq, putt]
  | some d => cases isW o.op <;> simp [frV_eq, frS_eq, frH_eq, putt]
def stepg (id : Nat) (o : Oper) (s : St) (k : St → Option R) (g : Bool) : Option R :=
  match g with
  | true => opk P C id (ev s.t) s.h (fin o s k) o.op
  | false => fin o s k (.tup []) s.h
def knk (s : St) (d : Nat) (x : Bool) (k : St → Option R) : Option R := frS s.t d (.b x) fun t => k ⟨t, s.h⟩
theorem knk_eq (s : St) (d : Nat) (x : Bool) (k : St → Option R) : knk s d x k = k (kn s d x) := by unfold knk kn; rw [frS_eq]
def stepk (ops : Array Oper) (id : Nat) (o : Oper) (s : St) (k : St → Option R) : Option R :=
  match o.guard with
  | none => opk P C id (ev s.t) s.h (fin o s k) o.op
  | some (j, w) => match (ops[j]?).bind (·.dst) with
    | some d => match s.t.getD d .u with
      | .b x => match x with
        | true => knk s d true fun s => stepg P C id o s k w
        | false => knk s d false fun s => stepg P C id o s k (!w)
      | .tup [] => stepg P C id o s k false
      | _ => none
    | none => none
def regk (ops : Array Oper) : Nat → List Oper → St → (St → Option R) → Option R
  | _, [], s, k => k s
  | id, o :: l, s, k => stepk P C ops id o s fun s' => regk ops (id + nal P C o.op) l s' k
end
theorem blanks_get : ∀ (n j : Nat) (b : Blk), (blanks n)[j]? = some b → b.gen = 0
  | 0, _, _, h => by simp [blanks] at h
  | n + 1, 0, b, h => by simp [blanks] at h; subst h; rfl
  | n + 1, j + 1, b, h => blanks_get n j b (by simpa [blanks] using h)
def Cx.more (x : Cx) (n : Nat) : Cx := { x with h := x.h ++ blanks n }
theorem more_get {x : Cx} {n j : Nat} {b : Blk} (h : (x.more n).h[j]? = some b) : x.h[j]? = some b ∨ b.gen = 0 := by
  simp only [Cx.more, List.getElem?_append] at h
  split at h
  · exact .inl h
  · exact .inr (blanks_get _ _ _ h)
theorem more_old {x : Cx} {n j : Nat} {b : Blk} (h : x.h[j]? = some b) : (x.more n).h[j]? = some b := by
  simp only [Cx.more]
  rw [List.getElem?_append_left (List.getElem?_eq_some_iff.1 h).1]; exact h
theorem more_own {x : Cx} {n k : Nat} : (x.more n).own k → x.own k := by
  rintro ⟨j, b, h1, h2, h3, h4⟩
  rcases more_get h1 with h | h
  · exact ⟨j, b, h, h2, h3, h4⟩
  · have := h2.1; omega
theorem more_to {x : Cx} (hx : HR x) (n : Nat) : To x (x.more n) := by
  have mono : Mono x (x.more n) := ⟨rfl, fun id b hb => ⟨b, more_old hb, Nat.le_refl _, fun _ l => ⟨l.2, rfl, rfl, Nat.le_refl _⟩⟩, fun _ _ ha => ⟨ha, rfl⟩, Nat.le_refl _⟩
  refine ⟨⟨mono, fun _ _ ho => ⟨fun k => ho (more_own k), rfl⟩, fun _ _ ha _ => ha⟩, ⟨fun id b hb hg hm => ?_, fun id b k es hb hg hdm => ?_, fun i j b b' hi hg hj hg' hρ => ?_, fun k hk => hx.ownav k (more_own hk), hx.avlt, fun id b hb hg => ?_⟩, Beside.refl _⟩
  · rcases more_get hb with h | h
    · obtain ⟨cs, lo, hi, h1, h2, h3, h4, h5⟩ := hx.blk id b h hg hm
      exact ⟨cs, lo, hi, h1, h2, h3.mono mono, h4, h5.mono mono⟩
    · have := hg.1; omega
  · rcases more_get hb with h | h
    · exact hx.mps id b k es h hg hdm
    · have := hg.1; omega
  · rcases more_get hi with h | h
    · rcases more_get hj with k | k
      · exact hx.inj i j b b' h hg k hg' hρ
      · have := hg'.1; omega
    · have := hg.1; omega
  · rcases more_get hb with h | h
    · exact hx.safe id b h hg
    · have := hg.1; omega
theorem ok_blanks : ∀ n : Nat, hok (blanks n)
  | 0 => fun b hb => by cases hb
  | n + 1 => fun b hb => by
    rcases List.mem_cons.1 hb with e | e
    · subst e; trivial
    · exact ok_blanks n b e
theorem hok.app {h g : Heap} (a : hok h) (b : hok g) : hok (h ++ g) := fun c hc => (List.mem_append.1 hc).elim (a c) (b c)
structure SR (x0 : Cx) (x : Cx) (s : St) (a : Act) : Prop where
  hr : HR x
  h : x.h = s.h
  t : VRs x s.t a.tmps.toList
  P : x.P = x0.P
  to : To x0 x
  d : a.defers = []
  ot : oks s.t
  oh : hok s.h
theorem step_ok {x0 : Cx} {R : Type} {C : Orc} (hC : OrcOk x0.P C) {id : Nat} {o : Oper} {x : Cx} {s : St} {a : Act} (hs : SR x0 x s a) {k : V → Heap → Option R} {res : R} (h : opk x0.P C id (ev s.t) s.h k o.op = some res)
    {K : Act → World → Prop} {Q : Exit → Act → World → Prop} (hK : ∀ (y : Cx) (r : V) (h' : Heap) (v : Value), To x y → y.P = x.P → y.h = h' → VR y r v → r.ok → hok h' → k r h' = some res → K (a.put o.dst v) y.w) : o.wp x0.P a x.w K Q := by
  have hev := VR_ev hs.t
  have hPP := hs.P
  have plain : ∀ r h', opv x0.P s.h id (ev s.t) o.op = some (r, h') → k r h' = some res → o.wp x0.P a x.w K Q := by
    intro r h' hop hk
    have hd := opv_ok (x := x) hs.hr (ρ := a.eval) hev (id := id) (o := o) (r := r) (h' := h') (by rw [hPP, hs.h]; exact hop)
    obtain ⟨n, y, h1, h2, h3, h4, h5⟩ := hd
    obtain ⟨o1, o2⟩ := opv_okk hop hs.oh (fun o => ok_ev hs.ot o)
    unfold Oper.wp
    rw [hPP] at h1
    rw [h1]
    rcases h5 with ⟨v, rfl, hv⟩ | ⟨rfl, rfl⟩
    · exact hK y r h' v h2 h3 h4 hv o1 o2 hk
    · exact hK y .u h' undef h2 h3 h4 trivial trivial o2 hk
  by_cases hcall : ∃ fo as ts, o.op = .call { callee := .value fo, args := as, argTypes := ts }
  · obtain ⟨fo, as, ts, ho⟩ := hcall
    rw [ho] at h
    simp only [opk] at h
    obtain ⟨f, us, h1, h3⟩ := callk_ok (x := x) hs.hr (by rw [hs.h]; exact hs.oh) (C := C) (by rw [hPP]; exact hC) (ρ := a.eval) hev (fun o => ok_ev hs.ot o) (c := { callee := .value fo, args := as, argTypes := ts }) (k := k) (res := res) (by rw [hPP, hs.h]; exact h) o.type
    unfold Oper.wp
    have he : execOp a.eval o = (do let d ← resolve a.eval { callee := .value fo, args := as, argTypes := ts } o.type; invoke d.target d.args) := by
      unfold execOp; rw [ho]
    rw [he]
    rw [hPP] at h1 h3
    rw [h1, Oper.upon_enter]
    refine h3.mono ?_
    rintro e w' ⟨r, h', u, y, h2, o1, o2, rfl, rfl, hto, hyP, hyh, hr⟩
    exact hK y r h' u hto (hyP.trans hPP.symm) hyh hr o1 o2 h2
  · rw [opk_plain (fun fo as ts e => hcall ⟨fo, as, ts, e⟩)] at h
    cases hop : opv x0.P s.h id (ev s.t) o.op with
    | none => simp [hop] at h
    | some p => exact plain p.1 p.2 hop (by simpa [hop] using h)
theorem oks_put {t : List V} (h : oks t) (d : Option Tmp) {c : V} (hc : c.ok) : oks (putt t d c) := by
  cases d with
  | none => exact h
  | some d => exact h.set d hc
theorem stepk_ok {x0 : Cx} {R : Type} {C : Orc} (hC : OrcOk x0.P C) {ops : Array Oper} {id : Nat} {o : Oper} {x : Cx} {s : St} {a : Act} (hs : SR x0 x s a) {k : St → Option R} {res : R} (h : stepk x0.P C ops id o s k = some res)
    {K : Act → World → Prop} {Q : Exit → Act → World → Prop} (hK : ∀ (y : Cx) (s' : St) (a' : Act), SR x0 y s' a' → k s' = some res → K a' y.w) :
    (Region.wanted o (yielded ops a.tmps) = true → o.wp x0.P a x.w K Q) ∧ (¬ Region.wanted o (yielded ops a.tmps) = true → K (a.put o.dst undef) x.w) := by
  have go : opk x0.P C id (ev s.t) s.h (fin o s k) o.op = some res → o.wp x0.P a x.w K Q := by
    intro h
    rw [fin_eq] at h
    refine step_ok hC hs h ?_
    intro y r h' v h1 h2 h3 h4 o1 o2 h5
    exact hK y ⟨putt s.t o.dst r, h'⟩ _ ⟨h1.hr, h3, VRs_put (hs.t.mono h1.ext.mono) o.dst h4, h2.trans hs.P, hs.to.trans h1, by cases hd : o.dst <;> simp [Act.put, hs.d], oks_put hs.ot _ o1, o2⟩ h5
  unfold stepk at h
  unfold Region.wanted
  cases hg : o.guard with
  | none =>
    simp only [hg] at h
    exact ⟨fun _ => go h, fun hn => absurd rfl hn⟩
  | some jw =>
    obtain ⟨j, w⟩ := jw
    simp only [hg] at h
    simp only
    split at h
    · rename_i d hd
      split at h
      · rename_i b hb
        have hy : yielded ops a.tmps j = some b := by
          unfold yielded
          rw [hd]
          simp only [Option.bind_some]
          cases hc : s.t[d]? with
          | none => rw [List.getD_eq_getElem?_getD, hc] at hb; cases hb
          | some c =>
            rw [List.getD_eq_getElem?_getD, hc] at hb
            simp only [Option.getD_some] at hb
            subst hb
            obtain ⟨v, hv, hr⟩ := hs.t.get d (.b b) hc
            have hr : v = .bool b := hr
            subst hr
            rw [show a.tmps[d]? = some (.bool b) by simpa using hv]
        rw [hy]
        have h2 : stepg x0.P C id o s k (b == w) = some res := by
          cases b <;> simp only [knk_eq, kn_eq hb] at h <;> simpa using h
        cases hbw : (b == w) with
        | true =>
          rw [hbw] at h2
          have := eq_of_beq hbw
          subst this
          exact ⟨fun _ => go h2, fun hn => absurd (by simp) hn⟩
        | false =>
          rw [hbw] at h2
          simp only [stepg, fin_eq] at h2
          refine ⟨fun hn => absurd (by simpa using hn) (by simpa using hbw), fun _ => ?_⟩
          exact hK x ⟨putt s.t o.dst (.tup []), s.h⟩ _ ⟨hs.hr, hs.h, VRs_put hs.t o.dst ⟨[], rfl, rfl⟩, hs.P, hs.to, by cases hd : o.dst <;> simp [Act.put, hs.d], oks_put hs.ot _ trivial, hs.oh⟩ h2
      · rename_i hb
        have hy : yielded ops a.tmps j = none := by
          unfold yielded
          rw [hd]
          simp only [Option.bind_some]
          cases hc : s.t[d]? with
          | none => rw [List.getD_eq_getElem?_getD, hc] at hb; cases hb
          | some c =>
            rw [List.getD_eq_getElem?_getD, hc] at hb
            simp only [Option.getD_some] at hb
            subst hb
            obtain ⟨v, hv, hr⟩ := hs.t.get d (.tup []) hc
            obtain ⟨l, rfl, hl⟩ := hr
            rw [show a.tmps[d]? = some (.tuple l.toArray) by simpa using hv]
        rw [hy]
        simp only [stepg, fin_eq] at h
        exact ⟨fun hn => by simp at hn, fun _ => hK x ⟨putt s.t o.dst (.tup []), s.h⟩ _ ⟨hs.hr, hs.h, VRs_put hs.t o.dst ⟨[], rfl, rfl⟩, hs.P, hs.to, by cases hd : o.dst <;> simp [Act.put, hs.d], oks_put hs.ot _ trivial, hs.oh⟩ h⟩
      · cases h
    · cases h
theorem regk_ok {x0 : Cx} {R : Type} {C : Orc} (hC : OrcOk x0.P C) {ops : Array Oper} {k : St → Option R} {res : R} {Q : Exit → Act → World → Prop} (hK : ∀ (y : Cx) (s' : St) (a' : Act), SR x0 y s' a' → k s' = some res → Q .normal a' y.w) :
    ∀ (l : List Oper) (m id : Nat) (x : Cx) (s : St) (a : Act), (∀ j, l[j]? = ops[m + j]?) → SR x0 x s a → regk x0.P C ops id l s k = some res → wpOps x0.P ops Q ((List.range l.length).map (m + ·)) a x.w
  | [], m, id, x, s, a, _, hs, h => by
    simp only [regk] at h
    exact hK x s a hs h
  | o :: l, m, id, x, s, a, hl, hs, h => by
    simp only [regk] at h
    have h0 : ops[m]? = some o := by simpa using (hl 0).symm
    rw [List.length_cons, List.range_succ_eq_map, List.map_cons, List.map_map]
    simp only [Nat.add_zero]
    rw [wpOps_cons]
    unfold wpOp
    simp only [h0]
    have hstep := stepk_ok hC hs h (K := wpOps x0.P ops Q (List.map ((fun x => m + x) ∘ Nat.succ) (List.range l.length))) (Q := Q) (fun y s' a' hs' hk => by
      have := regk_ok hC hK l (m + 1) _ y s' a' (fun j => by have := hl (j + 1); simpa [Nat.add_assoc, Nat.add_comm 1 j] using this) hs' hk
      have e : (List.map ((fun x => m + x) ∘ Nat.succ) (List.range l.length)) = (List.range l.length).map (m + 1 + ·) := by
        apply List.map_congr_left; intro j _; simp only [Function.comp]; omega
      rw [e]; exact this)
    split
    · rename_i hw; exact .inl (hstep.1 hw)
    · rename_i hw; exact hstep.2 hw
end Go.Proofs.YtkmkhcmfpbffjaaGreat.VI

namespace Go.Proofs.YtkmkhcmfpbffjaaGreat.VI
set_option linter.unusedVariables false
set_option linter.unusedSimpArgs false
def agree (T : List Nat) (h2 h : Heap) : Prop := ∀ j ∈ T, h2[j]? = h[j]?
structure Local (T : List Nat) (U : Heap → Heap) : Prop where
  out : ∀ h j, j ∉ T → (U h)[j]? = h[j]?
  inn : ∀ h h2, agree T h2 h → ∀ j ∈ T, (U h2)[j]? = (U h)[j]?
theorem Local.id (T : List Nat) : Local T fun h => h := ⟨fun _ _ _ => rfl, fun _ _ h j hj => h j hj⟩
theorem Local.set {T : List Nat} {i : Nat} (hi : i ∈ T) (b : Blk) : Local T fun h => h.set i b := by
  refine ⟨fun h j hj => ?_, fun h h2 ha j hj => ?_⟩
  · rw [List.getElem?_set_ne]; intro e; subst e; exact hj hi
  · by_cases e : i = j
    · subst e
      have := ha i hi
      simp only [List.getElem?_set_self']
      rw [this]
    · rw [List.getElem?_set_ne e, List.getElem?_set_ne e]; exact ha j hj
theorem Local.pt {T : List Nat} {U : Heap → Heap} (f : Nat → Blk → Blk) (hU : ∀ h j, (U h)[j]? = (h[j]?).map (f j)) (hf : ∀ j b, j ∉ T → f j b = b) : Local T U := by
  refine ⟨fun h j hj => ?_, fun h h2 ha j hj => ?_⟩
  · rw [hU]
    cases h[j]? with
    | none => rfl
    | some b => rw [Option.map_some, hf j b hj]
  · rw [hU, hU, ha j hj]
theorem Local.comm {T T' : List Nat} {U U' : Heap → Heap} (h1 : Local T U) (h2 : Local T' U') (hd : ∀ i ∈ T, i ∉ T') (h : Heap) : U (U' h) = U' (U h) := by
  apply List.ext_getElem?
  intro j
  by_cases hj : j ∈ T
  · rw [h2.out (U h) j (hd j hj)]
    exact h1.inn h (U' h) (fun i hi => h2.out h i (hd i hi)) j hj
  · rw [h1.out (U' h) j hj]
    by_cases hj' : j ∈ T'
    · exact (h2.inn h (U h) (fun i hi => h1.out h i fun q => hd i q hi) j hj').symm
    · rw [h2.out h j hj', h2.out (U h) j hj', h1.out h j hj]
def hid : V → List Nat
  | .ref id _ _ => [id]
  | .rrf id _ _ _ _ => [id]
  | .mref id _ => [id]
  | .own id _ _ _ _ => [id]
  | _ => []
def shutB (h : Heap) : List Nat → Bool
  | [] => true
  | j :: l => match h[j]? with
    | some b => match b.wr with
      | true => false
      | false => shutB h l
    | none => shutB h l
def quietC (h : Heap) (ids F : List Nat) (nf : Nat) : Bool := match ids with
  | [] => match nf with
    | 0 => shutB h F
    | _ + 1 => false
  | _ :: _ => false
def tchC (P : Program) (C : Orc) (h : Heap) (id : Nat) (e : Operand → V) (c : Call) : List Nat × Bool :=
  match c.callee with
  | .value fo => match e fo with
    | .fn f caps => match C f with
      | some en => match reach h 4 (dedup [] (byRef en.md (c.args.toList.map e ++ caps))) with
        | ids => match fzA P h (sig1 h ids) en.md c.argTypes.toList (c.args.toList.map e ++ caps) with
          | some (_, F) => (ids ++ (F ++ List.range' id en.nf), quietC h ids F en.nf)
          | none => ([], false)
      | none => ([], false)
    | _ => ([], false)
  | _ => ([], true)
def tch (P : Program) (C : Orc) (h : Heap) (id : Nat) (e : Operand → V) : Op → List Nat × Bool
  | .alloc _ => ([id], false)
  | .box _ _ => ([id], false)
  | .buildSlice _ _ _ => ([id], false)
  | .makeSlice _ _ _ => ([id], false)
  | .makeMap _ _ => ([id], false)
  | .insert _ m _ _ => (hid (e m), false)
  | .lookup _ m _ _ => (hid (e m), true)
  | .convert s d a => match toBys P s d with
    | true => ([id], false)
    | false => (hid (e a), true)
  | .load _ a => (hid (e a), true)
  | .store _ a _ => (hid (e a), false)
  | .nilCheck a => (hid (e a), true)
  | .binOp _ _ a b _ => (hid (e a) ++ hid (e b), true)
  | .slice _ a _ _ _ => (hid (e a), true)
  | .fieldAddr _ a _ => (hid (e a), true)
  | .indexAddr _ a _ => (hid (e a), true)
  | .call c => match c.callee with
    | .builtin .append => (id :: (c.args.toList.map fun a => hid (e a)).flatten, false)
    | .builtin _ => ((c.args.toList.map fun a => hid (e a)).flatten, true)
    | _ => tchC P C h id e c
  | _ => ([], true)
theorem cur_agree {h h2 : Heap} {id : Nat} (he : h2[id]? = h[id]?) (gen : Nat) : cur h2 id gen = cur h id gen := by unfold cur; rw [he]
theorem blkOf_agree {h h2 : Heap} {id : Nat} (he : h2[id]? = h[id]?) (gen : Nat) : blkOf h2 id gen = blkOf h id gen := by unfold blkOf; rw [he]
theorem blank_agree {h h2 : Heap} {id : Nat} (he : h2[id]? = h[id]?) : blank h2 id = blank h id := by unfold blank; rw [he]
theorem vloadAt_agree {P : Program} {h h2 : Heap} {t : TypeId} {c : V} (ha : agree (hid c) h2 h) : vloadAt P h2 t c = vloadAt P h t c := by
  cases c <;> first | rfl | (simp only [vloadAt]; rw [blkOf_agree (ha _ (by simp [hid]))])
theorem vnil_agree {h h2 : Heap} {c : V} (ha : agree (hid c) h2 h) : vnil h2 c = vnil h c := by
  cases c <;> first | rfl | (simp only [vnil]; rw [cur_agree (ha _ (by simp [hid]))])
theorem vlen_agree {P : Program} {h h2 : Heap} {t : TypeId} {c : V} (ha : agree (hid c) h2 h) : vlen P h2 t c = vlen P h t c := by
  cases c with
  | own id gen off n s =>
    have hc := cur_agree (ha id (by simp [hid])) gen
    unfold vlen
    cases P.underlying t with
    | none => rfl
    | some d => cases d with
      | slice el => show (if cur h2 id gen = true then _ else _) = (if cur h id gen = true then _ else _); rw [hc]
      | _ => rfl
  | ref id gen off => unfold vlen; cases P.underlying t with
    | none => rfl
    | some d => cases d <;> rfl
  | _ => unfold vlen; (cases P.underlying t with
    | none => rfl
    | some d => cases d <;> rfl)
theorem vslice_agree {P : Program} {h h2 : Heap} {t : TypeId} {c : V} {lo hi mx : Option V} (ha : agree (hid c) h2 h) : vslice P h2 t c lo hi mx = vslice P h t c lo hi mx := by
  cases c <;> first | rfl | (simp only [vslice]; rw [cur_agree (ha _ (by simp [hid]))])
theorem vfieldAddr_agree {P : Program} {h h2 : Heap} {t : TypeId} {c : V} {f : Nat} (ha : agree (hid c) h2 h) : vfieldAddr P h2 t c f = vfieldAddr P h t c f := by
  cases c <;> first | rfl | (simp only [vfieldAddr]; rw [cur_agree (ha _ (by simp [hid]))])
theorem rowAt_agree {h h2 : Heap} {id : Nat} (he : h2[id]? = h[id]?) (gen off s j : Nat) : rowAt h2 id gen off s j = rowAt h id gen off s j := by unfold rowAt isRows; rw [he]
theorem wk_agree {h h2 : Heap} {c : V} (ha : agree (hid c) h2 h) : wk h2 c = wk h c := by
  cases c <;> first | rfl | (simp only [wk]; rw [cur_agree (ha _ (by simp [hid]))])
theorem vsrc_agree {h h2 : Heap} {sz : Nat} {c : V} (ha : agree (hid c) h2 h) : vsrc h2 sz c = vsrc h sz c := by
  cases c <;> first | rfl | (simp only [vsrc]; rw [blkOf_agree (ha _ (by simp [hid]))])
theorem vmark_agree {h h2 : Heap} {c : V} (ha : agree (hid c) h2 h) : vmark h2 c = vmark h c := by
  cases c <;> first | rfl | (simp only [vmark]; rw [blkOf_agree (ha _ (by simp [hid]))])
theorem vstr_agree {h h2 : Heap} {c : V} (ha : agree (hid c) h2 h) : vstr h2 c = vstr h c := by
  cases c <;> first | rfl | (simp only [vstr]; rw [vsrc_agree ha])
theorem vindexAddr_agree {P : Program} {h h2 : Heap} {t : TypeId} {c i : V} (ha : agree (hid c) h2 h) : vindexAddr P h2 t c i = vindexAddr P h t c i := by
  cases c with
  | own id gen off n s => simp only [vindexAddr, cur_agree (ha id (by simp [hid])), rowAt_agree (ha id (by simp [hid]))]
  | ref id gen off => simp only [vindexAddr]; rw [cur_agree (ha _ (by simp [hid]))]
  | _ => rfl
theorem mapOf_agree {h h2 : Heap} {c : V} (ha : agree (hid c) h2 h) : mapOf h2 c = mapOf h c := by
  cases c <;> first | rfl | (simp only [mapOf]; rw [ha _ (by simp [hid])])
theorem mapOf_hid {h : Heap} {c : V} {q : Nat × Blk × IntKind × List (Bool × Int)} (e : mapOf h c = some q) : hid c = [q.1] := by
  unfold mapOf at e
  split at e
  case h_2 => cases e
  split at e
  case h_2 => cases e
  split at e
  case h_2 => cases e
  split at e
  case h_2 => cases e
  injection e with e; subst e
  rfl
theorem opv_loc {P : Program} {C : Orc} {h : Heap} {id : Nat} {e : Operand → V} {op : Op} {r : V} {h1 : Heap} (ho : opv P h id e op = some (r, h1)) :
    ∃ U : Heap → Heap, h1 = U h ∧ Local (tch P C h id e op).1 U ∧ ((tch P C h id e op).2 = true → ∀ g, U g = g) ∧ ∀ h2, agree (tch P C h id e op).1 h2 h → opv P h2 id e op = some (r, U h2) ∧ tch P C h2 id e op = tch P C h id e op := by
  have quiet : ∀ (X : Heap → Option V), (∀ g, opv P g id e op = (X g).bind fun z => some (z, g)) → (∀ h2, agree (tch P C h id e op).1 h2 h → X h2 = X h) → (∀ h2, tch P C h2 id e op = tch P C h id e op) →
      ∃ U : Heap → Heap, h1 = U h ∧ Local (tch P C h id e op).1 U ∧ ((tch P C h id e op).2 = true → ∀ g, U g = g) ∧ ∀ h2, agree (tch P C h id e op).1 h2 h → opv P h2 id e op = some (r, U h2) ∧ tch P C h2 id e op = tch P C h id e op := by
    intro X h3 h4 ht
    rw [h3] at ho
    obtain ⟨h5, rfl⟩ := bind_pair ho
    exact ⟨fun g => g, rfl, Local.id _, fun _ _ => rfl, fun h2 ha => ⟨by rw [h3, h4 h2 ha, h5]; rfl, ht h2⟩⟩
  cases op with
  | alloc t =>
    simp only [opv] at ho
    split at ho
    · rename_i hb
      cases hz : zcells P t with
      | none => simp [hz] at ho
      | some cs =>
        simp only [hz, Option.bind_some, Option.some.injEq, Prod.mk.injEq] at ho
        obtain ⟨rfl, rfl⟩ := ho
        refine ⟨fun g => newb g id t (mkD P t cs), rfl, Local.set (by simp [tch]) _, fun h => by simp [tch] at h, fun h2 ha => ⟨?_, rfl⟩⟩
        simp only [opv, blank_agree (ha id (by simp [tch])), hb, if_true, hz, Option.bind_some]
    · cases ho
  | box t a =>
    simp only [opv] at ho
    split at ho
    · rename_i hb
      cases hz : vcells (e a) with
      | none => simp [hz] at ho
      | some cs =>
        simp only [hz, Option.bind_some] at ho
        split at ho
        · rename_i hok
          simp only [Option.some.injEq, Prod.mk.injEq] at ho
          obtain ⟨rfl, rfl⟩ := ho
          refine ⟨fun g => newb g id t (mkD P t cs), rfl, Local.set (by simp [tch]) _, fun h => by simp [tch] at h, fun h2 ha => ⟨?_, rfl⟩⟩
          simp only [opv, blank_agree (ha id (by simp [tch])), hb, if_true, hz, Option.bind_some, hok]
        · cases ho
    · cases ho
  | buildSlice t len ps =>
    simp only [opv, vbuildSlice] at ho
    split at ho
    · rename_i elem hu
      split at ho
      · rename_i s zs hs hz
        split at ho
        · rename_i hc
          split at ho
          · rename_i cs hf
            split at ho
            · rename_i hok
              simp only [Option.some.injEq, Prod.mk.injEq] at ho
              obtain ⟨rfl, rfl⟩ := ho
              refine ⟨fun g => newb g id elem (mkD P elem cs), rfl, Local.set (by simp [tch]) _, fun h => by simp [tch] at h, fun h2 ha => ⟨?_, rfl⟩⟩
              simp only [opv, vbuildSlice, hu, hs, hz, blank_agree (ha id (by simp [tch])), hf]
              rw [if_pos hc, if_pos hok]
            · cases ho
          · cases ho
        · cases ho
      · cases ho
    · cases ho
  | makeSlice t l c =>
    simp only [opv] at ho
    split at ho
    · rename_i hs
      have ho' := ho
      unfold vmake at ho
      split at ho
      case h_2 => cases ho
      rename_i k n hl
      split at ho
      case h_2 => cases ho
      rename_i elem hu
      split at ho
      case h_2 => cases ho
      rename_i s b zs hsz hb hz
      split at ho
      case isFalse => cases ho
      rename_i hc
      split at ho
      case isFalse => cases ho
      rename_i hn
      simp only [Option.some.injEq, Prod.mk.injEq] at ho
      obtain ⟨rfl, rfl⟩ := ho
      refine ⟨fun g => newb g id elem (zD zs n.toNat), rfl, Local.set (by simp [tch]) _, fun h => by simp [tch] at h, fun h2 ha => ⟨?_, rfl⟩⟩
      simp only [opv, hs, if_true, vmake, hl, hu, hsz, hb, hz, blank_agree (ha id (by simp [tch]))]
      rw [if_pos hc, if_pos hn]
    · cases ho
  | store t a c =>
    simp only [opv] at ho
    cases hs : vstoreAt P h t (e a) (e c) with
    | none => simp [hs] at ho
    | some g =>
      simp only [hs, Option.bind_some, Option.some.injEq, Prod.mk.injEq] at ho
      obtain ⟨rfl, rfl⟩ := ho
      unfold vstoreAt at hs
      split at hs
      · rename_i i gen off hea
        split at hs
        · rename_i b vs n hb hvs hn
          split at hs
          · rename_i hc
            split at hs
            · rename_i d hd
              injection hs with hs
              subst hs
              refine ⟨fun g => g.set i { b with d := d }, rfl, Local.set (by simp [tch, hea, hid]) _, fun h => by simp [tch] at h, fun h2 ha => ⟨?_, rfl⟩⟩
              simp only [opv, vstoreAt, hea, blkOf_agree (ha i (by simp [tch, hea, hid])), hb, hvs, hn, if_pos hc, hd, Option.bind_some]
            · cases hs
          · cases hs
        · cases hs
      · rename_i i gen row sz fld hea
        split at hs
        · rename_i b vs n hb hvs hn
          split at hs
          · rename_i hc
            split at hs
            · rename_i d hd
              injection hs with hs
              subst hs
              refine ⟨fun g => g.set i { b with d := d }, rfl, Local.set (by simp [tch, hea, hid]) _, fun h => by simp [tch] at h, fun h2 ha => ⟨?_, rfl⟩⟩
              simp only [opv, vstoreAt, hea, blkOf_agree (ha i (by simp [tch, hea, hid])), hb, hvs, hn, if_pos hc, hd, Option.bind_some]
            · cases hs
          · cases hs
        · cases hs
      · cases hs
  | load t a => exact quiet (fun g => vloadAt P g t (e a)) (fun _ => rfl) (fun h2 ha => vloadAt_agree ha) fun _ => rfl
  | nilCheck a => exact quiet (fun g => vnil g (e a)) (fun _ => rfl) (fun h2 ha => vnil_agree ha) fun _ => rfl
  | slice t a lo hi mx => exact quiet (fun g => vslice P g t (e a) (lo.map e) (hi.map e) (mx.map e)) (fun _ => rfl) (fun h2 ha => vslice_agree ha) fun _ => rfl
  | fieldAddr t a f => exact quiet (fun g => vfieldAddr P g t (e a) f) (fun _ => rfl) (fun h2 ha => vfieldAddr_agree ha) fun _ => rfl
  | indexAddr t a i => exact quiet (fun g => vindexAddr P g t (e a) (e i)) (fun _ => rfl) (fun h2 ha => vindexAddr_agree ha) fun _ => rfl
  | move a => exact quiet (fun _ => some (e a)) (fun _ => rfl) (fun _ _ => rfl) fun _ => rfl
  | assign a => exact quiet (fun _ => some (e a)) (fun _ => rfl) (fun _ _ => rfl) fun _ => rfl
  | pick c a b => exact quiet (fun _ => vpick (e c) (e a) (e b)) (fun _ => rfl) (fun _ _ => rfl) fun _ => rfl
  | build t ps => exact quiet (fun _ => vbuild P t (ps.toList.map fun p => (p.1, e p.2))) (fun _ => rfl) (fun _ _ => rfl) fun _ => rfl
  | binOp o t a b t2 => exact quiet (fun g => vbinx P o t (wk g (e a)) (wk g (e b))) (fun _ => rfl) (fun h2 ha => by rw [wk_agree (fun j hj => ha j (by simp [tch, hj])), wk_agree (fun j hj => ha j (by simp [tch, hj]))]) fun _ => rfl
  | unOp o t a => exact quiet (fun _ => vun o (e a)) (fun _ => rfl) (fun _ _ => rfl) fun _ => rfl
  | convert s d a =>
    cases ht1 : toBys P s d with
    | true =>
      have ht2 : toStr P s d = false := by
        unfold toBys at ht1
        unfold toStr
        simp only [Bool.and_eq_true] at ht1
        cases hs : isByteSl P s with
        | false => rfl
        | true =>
          exfalso
          have h1 := ht1.2
          unfold isByteSl at hs
          cases hu : P.underlying s with
          | none => rw [hu] at hs; cases hs
          | some dd => rw [hu] at hs h1; cases dd <;> first | cases hs | cases h1
      simp only [opv, ht1, ht2] at ho
      split at ho
      · rename_i el hu
        have ho' := ho
        unfold vbys at ho
        split at ho
        case h_2 => cases ho
        rename_i hbl
        have key : ∀ (d' : D) (n : Nat), r = .own id 1 0 n 1 → h1 = newb h id el d' → (∀ g, blank g id = true → vbys g id el (e a) = some (.own id 1 0 n 1, newb g id el d')) → ∃ U : Heap → Heap, h1 = U h ∧ Local (tch P C h id e (.convert s d a)).1 U ∧ ((tch P C h id e (.convert s d a)).2 = true → ∀ g, U g = g) ∧ ∀ h2, agree (tch P C h id e (.convert s d a)).1 h2 h → opv P h2 id e (.convert s d a) = some (r, U h2) ∧ tch P C h2 id e (.convert s d a) = tch P C h id e (.convert s d a) := by
          intro d' n hr hh hg
          subst hr hh
          refine ⟨fun g => newb g id el d', rfl, by simp only [tch, ht1]; exact Local.set (by simp) _, fun h => by simp [tch, ht1] at h, fun g ha => ⟨?_, by simp only [tch, ht1]⟩⟩
          have hb : blank g id = true := by
            rw [blank_agree (ha id (by simp [tch, ht1]))]; exact hbl
          simp only [opv, ht1, ht2, hu, hg g hb]
        split at ho
        · rename_i x hx
          simp only [Option.some.injEq, Prod.mk.injEq] at ho
          refine key (.ints .u8 (bys x)) x.size ho.1.symm ho.2.symm fun g hg => ?_
          simp only [vbys, hg, hx]
        · rename_i xs hx
          simp only [Option.some.injEq, Prod.mk.injEq] at ho
          refine key (.ints .u8 xs) xs.length ho.1.symm ho.2.symm fun g hg => ?_
          simp only [vbys, hg, hx]
        · cases ho
      · cases ho
    | false =>
      cases ht2 : toStr P s d with
      | true => exact quiet (fun g => vstr g (e a)) (fun _ => by simp only [opv, ht2]) (fun g ha => vstr_agree (fun j hj => ha j (by simp only [tch, ht1]; exact hj))) fun g => by simp only [tch, ht1]
      | false => cases ht3 : toSelf P s d with
        | true => exact quiet (fun g => vmark g (e a)) (fun _ => by simp only [opv, ht2, ht1, ht3]) (fun g ha => vmark_agree (fun j hj => ha j (by simp only [tch, ht1]; exact hj))) fun g => by simp only [tch, ht1]
        | false => exact quiet (fun _ => vconv P s d (e a)) (fun _ => by simp only [opv, ht2, ht1, ht3]) (fun _ _ => rfl) fun g => by simp only [tch, ht1]
  | field s a f => exact quiet (fun _ => vfield P s (e a) f) (fun _ => rfl) (fun _ _ => rfl) fun _ => rfl
  | index t a i => exact quiet (fun _ => vindex P t (e a) (e i)) (fun _ => rfl) (fun _ _ => rfl) fun _ => rfl
  | extract a i => exact quiet (fun _ => vextract (e a) i) (fun _ => rfl) (fun _ _ => rfl) fun _ => rfl
  | makeFunc k first caps =>
    cases k with
    | func f => exact quiet (fun _ => if first.size = 0 then some (.fn f (caps.toList.map e)) else none) (fun g => by simp only [opv]; split <;> rfl) (fun _ _ => rfl) fun _ => rfl
    | _ => simp [opv] at ho
  | call c =>
    obtain ⟨callee, as, ts⟩ := c
    cases callee with
    | builtin b =>
      cases b with
      | len =>
        refine quiet (fun g => match as.toList, ts[0]? with | [a], some t => vlen P g t (e a) | _, _ => none) (fun g => by simp only [opv]; generalize as.toList = l; generalize ts[0]? = o; rcases l with _ | ⟨a, _ | _⟩ <;> cases o <;> rfl) (fun h2 ha => ?_) fun _ => rfl
        split
        · rename_i a t h3 h4
          exact vlen_agree fun j hj => ha j (by simp [tch, h3, hj])
        · rfl
      | min => exact quiet (fun _ => match as.toList.map e with | .i k m :: l => vmin k m l | _ => none) (fun g => by simp only [opv]; generalize as.toList.map e = l; rcases l with _ | ⟨c, l⟩ <;> (try rfl); cases c <;> rfl) (fun _ _ => rfl) fun _ => rfl
      | max => exact quiet (fun _ => match as.toList.map e with | .i k m :: l => vmax k m l | _ => none) (fun g => by simp only [opv]; generalize as.toList.map e = l; rcases l with _ | ⟨c, l⟩ <;> (try rfl); cases c <;> rfl) (fun _ _ => rfl) fun _ => rfl
      | append =>
        simp only [opv] at ho
        split at ho
        case h_2 => cases ho
        rename_i a b st xt has hts
        have ho' := ho
        unfold vappend at ho
        split at ho
        case h_2 => cases ho
        rename_i elem hst
        split at ho
        case h_2 => cases ho
        rename_i z by_ zs hsz hb hz
        split at ho
        case isFalse => cases ho
        rename_i hc
        split at ho
        case h_2 => cases ho
        rename_i bid g n d1 m d2 hbase hapx
        split at ho
        case h_2 => cases ho
        rename_i d hcat
        split at ho
        case isFalse => cases ho
        rename_i hnm
        simp only [Option.some.injEq, Prod.mk.injEq] at ho
        obtain ⟨rfl, rfl⟩ := ho
        have hbid : bid ∈ (id :: (as.toList.map fun a => hid (e a)).flatten) := by
          unfold vbase at hbase
          split at hbase
          · split at hbase
            · simp only [Option.some.injEq, Prod.mk.injEq] at hbase; rw [← hbase.1]; simp
            · cases hbase
          · rename_i hea
            split at hbase
            · split at hbase
              · split at hbase
                · simp only [Option.some.injEq, Prod.mk.injEq] at hbase
                  rw [← hbase.1]
                  simp [has, hea, hid]
                · cases hbase
              · cases hbase
            · cases hbase
          · cases hbase
        refine ⟨fun g' => newg g' bid g elem d, rfl, Local.set hbid _, fun h => by simp [tch] at h, fun h2 ha => ⟨?_, rfl⟩⟩
        have ha : agree (id :: (as.toList.map fun a => hid (e a)).flatten) h2 h := ha
        have hb1 : vbase h2 id (z + 1) elem (e a) = vbase h id (z + 1) elem (e a) := by
          unfold vbase
          split
          · rw [blank_agree (ha id (by simp))]
          · rename_i bid' g' off n' s' hea
            split
            · rw [blkOf_agree (ha bid' (by simp [has, hea, hid]))]
            · rfl
          · rfl
        have hb2 : vapx P h2 (z + 1) zs xt (e b) = vapx P h (z + 1) zs xt (e b) := by
          unfold vapx
          split
          · rfl
          · exact vsrc_agree fun j hj => ha j (by simp [has, hj])
          · rfl
        simp only [opv, has, hts, vappend, hst, hsz, hb, hz, if_pos hc, hb1, hbase, hb2, hapx, hcat, if_pos hnm]
      | _ => simp [opv] at ho
    | _ => simp [opv] at ho
  | makeMap t rr => cases rr with
    | some _ => cases ho
    | none =>
      simp only [opv] at ho
      unfold vnewm at ho
      split at ho
      case h_2 => cases ho
      rename_i hb
      split at ho
      case h_2 => cases ho
      rename_i k hk
      simp only [Option.some.injEq, Prod.mk.injEq] at ho
      obtain ⟨rfl, rfl⟩ := ho
      refine ⟨fun g => newb g id t (.bm k []), rfl, Local.set (by simp [tch]) _, fun h => by simp [tch] at h, fun h2 ha => ⟨?_, rfl⟩⟩
      simp only [opv, vnewm, blank_agree (ha id (by simp [tch])), hb, hk]
  | insert t m k c =>
    simp only [opv] at ho
    cases hs : vins P h t (e m) (e k) (e c) with
    | none => simp [hs] at ho
    | some g =>
      simp only [hs, Option.bind_some, Option.some.injEq, Prod.mk.injEq] at ho
      obtain ⟨rfl, rfl⟩ := ho
      have hs' := hs
      unfold vins at hs
      split at hs
      case h_2 => cases hs
      rename_i i b k' es t' kk n hm hk hc
      split at hs
      case h_2 => cases hs
      rename_i k2 hkb
      split at hs
      case isFalse => cases hs
      rename_i hcc
      injection hs with hs; subst hs
      refine ⟨fun g => g.set i { b with d := .bm k' (es ++ [(t', n)]) }, rfl, Local.set (by simp only [tch]; rw [mapOf_hid hm]; simp) _, fun h => by simp [tch] at h, fun h2 ha => ⟨?_, rfl⟩⟩
      have := mapOf_agree (h := h) (h2 := h2) (c := e m) (fun j hj => ha j (by simpa [tch] using hj))
      simp only [opv, vins, this, hm, hk, hc, hkb]
      rw [if_pos hcc]; rfl
  | lookup t m k ok => cases ok with
    | true => cases ho
    | false =>
      refine quiet (fun g => vlook P g t (e m) (e k)) (fun g => rfl) (fun h2 ha => ?_) fun _ => rfl
      have := mapOf_agree (h := h) (h2 := h2) (c := e m) (fun j hj => ha j (by simpa [tch] using hj))
      simp only [vlook, this]
  | _ => simp [opv] at ho
end Go.Proofs.YtkmkhcmfpbffjaaGreat.VI

namespace Go.Proofs.YtkmkhcmfpbffjaaGreat.VI
set_option linter.unusedVariables false
set_option linter.unusedSimpArgs false
theorem opv_congr {P : Program} {C : Orc} {h : Heap} {id : Nat} {e e' : Operand → V} {op : Op} (he : ∀ x ∈ op.operands, e x = e' x) : opv P h id e op = opv P h id e' op ∧ tch P C h id e op = tch P C h id e' op := by
  have pairs : ∀ ps : Array (Nat × Operand), (∀ x ∈ (ps.toList.map (·.2)).toArray, e x = e' x) → (ps.toList.map fun p => (p.1, e p.2)) = ps.toList.map fun p => (p.1, e' p.2) := fun ps hp =>
    List.map_congr_left fun p hm => by rw [hp p.2 (by simp; exact ⟨p.1, by simpa using hm⟩)]
  have lists : ∀ xs : Array Operand, (∀ x ∈ xs, e x = e' x) → xs.toList.map e = xs.toList.map e' := fun xs hp => List.map_congr_left fun p hm => hp p (by simpa using hm)
  cases op <;> simp only [Op.operands] at he
  case build t ps => simp only [opv, tch, pairs ps he]; exact ⟨trivial, trivial⟩
  case buildSlice t n ps => simp only [opv, tch, pairs ps he]; exact ⟨trivial, trivial⟩
  case makeFunc k first caps =>
    have := lists caps fun x hx => he x (by simp [hx])
    cases k <;> simp only [opv, tch, this] <;> exact ⟨trivial, trivial⟩
  case slice t x lo hi mx =>
    cases lo <;> cases hi <;> cases mx <;> simp_all [opv, tch]
  case call c =>
    obtain ⟨callee, as, ts⟩ := c
    have has : ∀ x ∈ as, e x = e' x := fun x hx => he x (by simp [Call.operands, hx])
    have hl := lists as has
    have hh : (as.toList.map fun a => hid (e a)) = as.toList.map fun a => hid (e' a) := List.map_congr_left fun p hm => by rw [has p (by simpa using hm)]
    cases callee with
    | builtin b =>
      cases b with
      | len =>
        refine ⟨?_, by simp only [tch, hh]⟩
        simp only [opv]
        rcases hx : as.toList with _ | ⟨a, _ | _⟩
        · rfl
        · cases ts[0]? with
          | none => rfl
          | some t => simp only; rw [has a (by rw [← Array.mem_toList_iff, hx]; simp)]
        · rfl
      | min => simp only [opv, tch, hl, hh]; exact ⟨trivial, trivial⟩
      | max => simp only [opv, tch, hl, hh]; exact ⟨trivial, trivial⟩
      | append =>
        refine ⟨?_, by simp only [tch, hh]⟩
        simp only [opv]
        rcases hx : as.toList with _ | ⟨a, _ | ⟨b, _ | _⟩⟩ <;> rcases ts.toList with _ | ⟨s, _ | ⟨t, _ | _⟩⟩ <;> first
          | rfl
          | (simp only; rw [has a (by rw [← Array.mem_toList_iff, hx]; simp), has b (by rw [← Array.mem_toList_iff, hx]; simp)])
      | _ => exact ⟨rfl, by simp only [tch, hh]⟩
    | value f =>
      have hf : e f = e' f := he f (by simp [Call.operands])
      refine ⟨rfl, ?_⟩
      simp only [tch, tchC, hl, hf]
    | _ => exact ⟨rfl, rfl⟩
  all_goals (first | exact ⟨rfl, rfl⟩ | (simp_all [opv, tch]; done))
theorem fzl_agree {h h2 : Heap} {f g : TypeId → V → Option (V × List Nat)} (hf : ∀ t c r i, f t c = some (r, i) → agree i h2 h → g t c = some (r, i)) (all : List TypeId) :
    ∀ (ts : List TypeId) (cs rs : List V) (i : List Nat), fzl f all ts cs = some (rs, i) → agree i h2 h → fzl g all ts cs = some (rs, i)
  | _, [], rs, i, h, _ => by simp [fzl] at h ⊢; exact h
  | [], c :: cs, rs, i, h, ha => by
    simp only [fzl] at h ⊢
    cases all with
    | nil => simp at h
    | cons t ts =>
      simp only at h ⊢
      split at h
      · rename_i r i1 rs' i2 e1 e2
        simp only [Option.some.injEq, Prod.mk.injEq] at h; obtain ⟨rfl, rfl⟩ := h
        rw [hf _ _ _ _ e1 fun j hj => ha j (List.mem_append_left _ hj), fzl_agree hf (t :: ts) ts cs _ _ e2 fun j hj => ha j (List.mem_append_right _ hj)]
      · cases h
  | t :: ts, c :: cs, rs, i, h, ha => by
    simp only [fzl] at h ⊢
    split at h
    · rename_i r i1 rs' i2 e1 e2
      simp only [Option.some.injEq, Prod.mk.injEq] at h; obtain ⟨rfl, rfl⟩ := h
      rw [hf _ _ _ _ e1 fun j hj => ha j (List.mem_append_left _ hj), fzl_agree hf all ts cs _ _ e2 fun j hj => ha j (List.mem_append_right _ hj)]
    · cases h
theorem fzc_agree {P : Program} {h h2 : Heap} : ∀ (d : Nat) (t : TypeId) (c r : V) (i : List Nat), fzc P h d t c = some (r, i) → agree i h2 h → fzc P h2 d t c = some (r, i)
  | 0, _, _, _, _, e, _ => by simp [fzc] at e
  | d + 1, t, c, r, i, e, ha => by
    cases c with
    | own id gen off n sz =>
      simp only [fzc] at e ⊢
      have hid : id ∈ i := by
        split at e
        · cases e
        · split at e
          · split at e
            · simp only [Option.some.injEq, Prod.mk.injEq] at e; rw [← e.2]; simp
            · cases e
          · split at e
            · split at e
              · simp only [Option.some.injEq, Prod.mk.injEq] at e; rw [← e.2]; simp
              · cases e
            · cases e
          · split at e
            · simp only [Option.some.injEq, Prod.mk.injEq] at e; rw [← e.2]; simp
            · cases e
          · cases e
          · cases e
      rw [blkOf_agree (ha id hid)]
      split at e
      · cases e
      · rename_i b hb
        split at e
        · rename_i k xs hd
          exact e
        · rename_i cs hd
          split at e
          · rename_i el hu
            split at e
            · rename_i ds ids hz
              simp only [Option.some.injEq, Prod.mk.injEq] at e
              obtain ⟨rfl, rfl⟩ := e
              rw [fzl_agree (g := fzc P h2 d) (fun t c r i h1 h2 => fzc_agree d t c r i h1 h2) _ _ _ _ _ hz fun j hj => ha j (by simp [hj])]
            · cases e
          · cases e
        · exact e
        · cases e
        · cases e
    | ref id gen off =>
      simp only [fzc] at e ⊢
      have hid : id ∈ i := by
        split at e
        · cases e
        · split at e
          · simp only [Option.some.injEq, Prod.mk.injEq] at e; rw [← e.2]; simp
          · split at e
            · simp only [Option.some.injEq, Prod.mk.injEq] at e; rw [← e.2]; simp
            · cases e
          · cases e
          · cases e
          · cases e
      rw [blkOf_agree (ha id hid)]
      split at e
      · cases e
      · split at e
        · exact e
        · split at e
          · rename_i ds ids hz
            simp only [Option.some.injEq, Prod.mk.injEq] at e
            obtain ⟨rfl, rfl⟩ := e
            rw [fzl_agree (g := fzc P h2 d) (fun t c r i h1 h2 => fzc_agree d t c r i h1 h2) _ _ _ _ _ hz fun j hj => ha j (by simp [hj])]
          · cases e
        · cases e
        · cases e
        · cases e
    | fn f cs =>
      simp only [fzc] at e ⊢
      split at e
      · rename_i ds ids hz
        simp only [Option.some.injEq, Prod.mk.injEq] at e
        obtain ⟨rfl, rfl⟩ := e
        rw [fzl_agree (g := fzc P h2 d) (fun t c r i h1 h2 => fzc_agree d t c r i h1 h2) _ _ _ _ _ hz ha]
      · cases e
    | _ => exact e
theorem fzv_agree {P : Program} {h h2 : Heap} {t : TypeId} {c r : V} {i : List Nat} (e : fzv P h t c = some (r, i)) (ha : agree i h2 h) : fzv P h2 t c = some (r, i) := by
  cases c with
  | agg cs =>
    simp only [fzv] at e ⊢
    split at e
    · rename_i ds ids hz
      simp only [Option.some.injEq, Prod.mk.injEq] at e
      obtain ⟨rfl, rfl⟩ := e
      rw [fzl_agree (g := fzc P h2 6) (fun t c r i h1 h2 => fzc_agree 6 t c r i h1 h2) _ _ _ _ _ hz ha]
    · cases e
  | _ => simp only [fzv] at e ⊢; exact fzc_agree 6 _ _ _ _ e ha
theorem fzA_agree {P : Program} {h h2 : Heap} {σ : Rn} : ∀ (cs : List V) (ms : List Bool) (ts : List TypeId) (rs : List V) (i : List Nat), fzA P h σ ms ts cs = some (rs, i) → agree i h2 h → fzA P h2 σ ms ts cs = some (rs, i)
  | [], _, _, _, _, e, _ => by simpa [fzA] using e
  | c :: cs, ms, ts, rs, i, e, ha => by
    simp only [fzA] at e ⊢
    split at e
    case h_2 => cases e
    rename_i rs' i2 e2
    split at e
    · simp only [Option.some.injEq, Prod.mk.injEq] at e; obtain ⟨rfl, rfl⟩ := e
      rw [fzA_agree cs _ _ _ _ e2 ha]
    · rename_i hm
      split at e
      · rename_i r i1 e1
        simp only [Option.some.injEq, Prod.mk.injEq] at e; obtain ⟨rfl, rfl⟩ := e
        rw [fzA_agree cs _ _ _ _ e2 fun j hj => ha j (List.mem_append_right _ hj)]
        have e1' := fzv_agree e1 fun j hj => ha j (List.mem_append_left _ hj)
        cases ms with
        | nil => simp only [e1']
        | cons b ms => cases b with
          | true => exact (hm ms rfl).elim
          | false => simp only [e1']
      · cases e
theorem behind_agree {h h2 : Heap} : ∀ {l : List Nat}, agree l h2 h → Go.Proofs.YtkmkhcmfpbffjaaGreat.VI.behind h2 l = Go.Proofs.YtkmkhcmfpbffjaaGreat.VI.behind h l
  | [], _ => rfl
  | i :: l, ha => by
    simp only [Go.Proofs.YtkmkhcmfpbffjaaGreat.VI.behind]
    rw [ha i (by simp), behind_agree (l := l) fun j hj => ha j (by simp [hj])]
theorem reach_sub (h : Heap) : ∀ (n : Nat) (ids : List Nat), ∀ j ∈ ids, j ∈ reach h n ids
  | 0, _, _, hj => hj
  | n + 1, ids, j, hj => reach_sub h n _ j (dedup_sub _ _ j hj)
theorem reach_agree {h h2 : Heap} : ∀ (n : Nat) (ids : List Nat), agree (reach h n ids) h2 h → reach h2 n ids = reach h n ids
  | 0, _, _ => rfl
  | n + 1, ids, ha => by
    simp only [reach] at ha ⊢
    have hsub : ∀ j ∈ ids, j ∈ reach h n (dedup ids (Go.Proofs.YtkmkhcmfpbffjaaGreat.VI.behind h ids)) := fun j hj => reach_sub h n _ j (dedup_sub _ _ j hj)
    rw [behind_agree (l := ids) fun j hj => ha j (hsub j hj)]
    exact reach_agree n _ ha
theorem sig1_agree {h h2 : Heap} {ids : List Nat} (ha : agree ids h2 h) : sig1 h2 ids = sig1 h ids := by
  funext id g
  unfold sig1
  cases hi : ids.idxOf? id with
  | none => cases cur h2 id g <;> cases cur h id g <;> rfl
  | some j => rw [cur_agree (ha id (List.mem_of_getElem? (idx_some hi)))]
theorem sig2_agree {h h2 : Heap} {h' : Heap} {ids : List Nat} {id0 : Nat} (ha : agree ids h2 h) : sig2 h2 h' ids id0 = sig2 h h' ids id0 := by
  funext j g
  unfold sig2
  cases cur h' j g with
  | false => rfl
  | true =>
    simp only
    cases hj : ids[j]? with
    | none => rfl
    | some i => simp only; rw [ha i (List.mem_of_getElem? hj)]
theorem hand_agree {h h2 : Heap} {σ : Rn} : ∀ {ids : List Nat}, agree ids h2 h → hand h2 σ ids = hand h σ ids
  | [], _ => rfl
  | i :: l, ha => by
    simp only [hand]
    rw [ha i (by simp), hand_agree (ids := l) fun j hj => ha j (by simp [hj])]
theorem blanksAt_agree {h h2 : Heap} : ∀ {n id : Nat}, (∀ j, id ≤ j → j < id + n → h2[j]? = h[j]?) → blanksAt h2 n id = blanksAt h n id
  | 0, _, _ => rfl
  | n + 1, id, ha => by
    simp only [blanksAt]
    rw [blank_agree (ha id (Nat.le_refl _) (by omega)), blanksAt_agree (n := n) (id := id + 1) fun j h1 h2 => ha j (by omega) (by omega)]
section
variable (P : Program) (C : Orc)
def opd (id : Nat) (e : Operand → V) (h : Heap) (op : Op) : Option (V × Heap) := opk P C id e h (fun r g => some (r, g)) op
end
theorem opd_plain {P : Program} {C : Orc} {id : Nat} {e : Operand → V} {h : Heap} {op : Op} (hc : ∀ fo as ts, op ≠ .call { callee := .value fo, args := as, argTypes := ts }) : opd P C id e h op = opv P h id e op := by
  unfold opd
  rw [opk_plain hc]
  cases opv P h id e op <;> rfl
theorem callk_bind {P : Program} {C : Orc} {id : Nat} {e : Operand → V} {h : Heap} {R : Type} (k : V → Heap → Option R) (c : Call) : callk P C h id e c k = (callk P C h id e c fun r g => some (r, g)).bind fun p => k p.1 p.2 := by
  unfold callk
  cases c.callee with
  | value fo =>
    simp only
    cases e fo with
    | fn f caps =>
      simp only
      cases C f with
      | none => rfl
      | some en =>
        simp only
        generalize reach h 4 (dedup [] (byRef en.md (c.args.toList.map e ++ caps))) = ids
        cases fzA P h (sig1 h ids) en.md c.argTypes.toList (c.args.toList.map e ++ caps) with
        | none => rfl
        | some p =>
          obtain ⟨as, F⟩ := p
          simp only
          cases disj F ids with
          | false => rfl
          | true =>
            simp only
            cases hand h (sig1 h ids) ids with
            | none => rfl
            | some hc =>
              simp only [Tr.run_eq]
              cases (en.tr as hc).val with
              | none => rfl
              | some q =>
                obtain ⟨r, h'⟩ := q
                simp only [Option.bind_some]
                cases wb h id ids F en.nf r h' <;> rfl
    | _ => rfl
  | _ => rfl
theorem opk_bind {P : Program} {C : Orc} {id : Nat} {e : Operand → V} {h : Heap} {R : Type} (k : V → Heap → Option R) (op : Op) : opk P C id e h k op = (opd P C id e h op).bind fun p => k p.1 p.2 := by
  by_cases hc : ∃ fo as ts, op = .call { callee := .value fo, args := as, argTypes := ts }
  · obtain ⟨fo, as, ts, rfl⟩ := hc
    unfold opd
    simp only [opk]
    exact callk_bind k _
  · have hc : ∀ fo as ts, op ≠ .call { callee := .value fo, args := as, argTypes := ts } := fun fo as ts e => hc ⟨fo, as, ts, e⟩
    rw [opd_plain hc, opk_plain hc]
theorem opd_congr {P : Program} {C : Orc} {id : Nat} {e e' : Operand → V} {h : Heap} {op : Op} (he : ∀ x ∈ op.operands, e x = e' x) : opd P C id e h op = opd P C id e' h op := by
  by_cases hc : ∃ fo as ts, op = .call { callee := .value fo, args := as, argTypes := ts }
  · obtain ⟨fo, as, ts, rfl⟩ := hc
    have has : ∀ x ∈ as, e x = e' x := fun x hx => he x (by simp [Op.operands, Call.operands, hx])
    have hfo : e fo = e' fo := he fo (by simp [Op.operands, Call.operands])
    have hl : as.toList.map e = as.toList.map e' := List.map_congr_left fun p hm => has p (by simpa using hm)
    unfold opd
    simp only [opk, callk, hfo, hl]
  · have e1 : ∀ e : Operand → V, opd P C id e h op = opv P h id e op := fun e => opd_plain fun fo as ts e => hc ⟨fo, as, ts, e⟩
    rw [e1, e1, (opv_congr (C := C) he).1]
theorem newBlk_out {σ : Rn} {h' : Heap} {ids : List Nat} {id0 j : Nat} {b : Blk} (h1 : j ∉ ids) (h2 : ¬ (id0 ≤ j ∧ j < id0 + (h'.length - ids.length))) : newBlk σ h' ids id0 j b = b := by
  unfold newBlk
  cases hi : ids.idxOf? j with
  | some k => exact absurd (List.mem_of_getElem? (idx_some hi)) h1
  | none =>
    simp only
    split
    · rename_i hq
      simp only [Bool.and_eq_true, decide_eq_true_eq] at hq
      exact absurd hq h2
    · rfl
theorem quietC_spec {h : Heap} {ids F : List Nat} {nf : Nat} (hq : quietC h ids F nf = true) : ids = [] ∧ nf = 0 ∧ shutB h F = true := by
  unfold quietC at hq
  split at hq
  · split at hq
    · exact ⟨rfl, rfl, hq⟩
    · cases hq
  · cases hq
theorem shutB_get {h : Heap} : ∀ {F : List Nat}, shutB h F = true → ∀ j ∈ F, ∀ b, h[j]? = some b → b.wr = false
  | [], _, _, hj, _, _ => by cases hj
  | k :: l, hs, j, hj, b, hb => by
    simp only [shutB] at hs
    rcases List.mem_cons.1 hj with e | e
    · subst e
      rw [hb] at hs
      simp only at hs
      cases hw : b.wr with
      | true => rw [hw] at hs; cases hs
      | false => rfl
    · have hl : shutB h l = true := by
        split at hs
        · split at hs
          · cases hs
          · exact hs
        · exact hs
      exact shutB_get hl j e b hb
theorem shutB_agree {h h2 : Heap} : ∀ {F : List Nat}, agree F h2 h → shutB h2 F = shutB h F
  | [], _ => rfl
  | k :: l, ha => by
    simp only [shutB]
    rw [ha k (by simp), shutB_agree (F := l) (fun j hj => ha j (List.mem_cons_of_mem _ hj))]
theorem quietC_agree {h h2 : Heap} {ids F : List Nat} {nf : Nat} (ha : agree F h2 h) : quietC h2 ids F nf = quietC h ids F nf := by
  unfold quietC; rw [shutB_agree ha]
theorem latch_shut {h : Heap} {F : List Nat} (hs : shutB h F = true) : latch h F = h := by
  apply List.ext_getElem?
  intro j
  rw [latch_get]
  cases hj : h[j]? with
  | none => rfl
  | some b =>
    simp only [Option.map_some]
    split
    · rename_i hc
      have := shutB_get hs j (by simpa using hc) b hj
      congr 1
      cases b; simp_all
    · rfl
theorem wbH_local {T : List Nat} {σ : Rn} {h' : Heap} {ids F : List Nat} {id0 : Nat} (hT : ∀ j, j ∉ T → j ∉ ids ∧ j ∉ F ∧ ¬ (id0 ≤ j ∧ j < id0 + (h'.length - ids.length))) (l : Bool) : Local T fun g => wbH σ (if l = true then latch g F else g) h' ids id0 := by
  refine Local.pt (fun j b => newBlk σ h' ids id0 j (if (l && F.contains j) = true then { b with wr := false } else b)) (fun g j => ?_) fun j b hj => ?_
  · rw [wbH_get]
    cases l with
    | true => simp only [if_true, latch_get, Option.map_map, Bool.true_and]; rfl
    | false => simp
  · obtain ⟨h1, h2, h3⟩ := hT j hj
    have : F.contains j = false := by
      cases hc : F.contains j with
      | false => rfl
      | true => exact absurd (List.contains_iff_mem.1 hc) h2
    rw [this, Bool.and_false, if_neg (by simp)]
    exact newBlk_out h1 h3
theorem opd_loc {P : Program} {C : Orc} {id : Nat} {e : Operand → V} {h : Heap} {op : Op} {r : V} {h1 : Heap} (ho : opd P C id e h op = some (r, h1)) :
    ∃ U : Heap → Heap, h1 = U h ∧ Local (tch P C h id e op).1 U ∧ ((tch P C h id e op).2 = true → ∀ g, U g = g) ∧ ∀ h2, agree (tch P C h id e op).1 h2 h → opd P C id e h2 op = some (r, U h2) ∧ tch P C h2 id e op = tch P C h id e op := by
  by_cases hc : ∃ fo as ts, op = .call { callee := .value fo, args := as, argTypes := ts }
  · obtain ⟨fo, as, ts, rfl⟩ := hc
    unfold opd at ho ⊢
    simp only [opk, callk] at ho ⊢
    cases hfo : e fo with
    | fn f caps =>
      rw [hfo] at ho
      simp only at ho ⊢
      cases hen : C f with
      | none => rw [hen] at ho; cases ho
      | some en =>
        rw [hen] at ho
        simp only at ho ⊢
        generalize hids : reach h 4 (dedup [] (byRef en.md (as.toList.map e ++ caps))) = ids at ho
        cases hz : fzA P h (sig1 h ids) en.md ts.toList (as.toList.map e ++ caps) with
        | none => rw [hz] at ho; cases ho
        | some p =>
          obtain ⟨xs, F⟩ := p
          rw [hz] at ho
          simp only at ho
          cases hdj : disj F ids with
          | false => rw [hdj] at ho; cases ho
          | true =>
            rw [hdj] at ho
            simp only at ho
            cases hh : hand h (sig1 h ids) ids with
            | none => rw [hh] at ho; cases ho
            | some hc =>
              rw [hh] at ho
              simp only [Tr.run_eq] at ho
              cases hv : (en.tr xs hc).val with
              | none => rw [hv] at ho; cases ho
              | some q =>
                obtain ⟨r', h'⟩ := q
                rw [hv] at ho
                simp only [Option.bind_some] at ho
                cases hw : wb h id ids F en.nf r' h' with
                | none => rw [hw] at ho; cases ho
                | some q2 =>
                  rw [hw] at ho
                  obtain ⟨qa, qb⟩ := q2
                  simp only [Option.some.injEq, Prod.mk.injEq] at ho
                  obtain ⟨hqa, hqb⟩ := ho
                  subst hqa hqb
                  have hT : tch P C h id e (.call { callee := .value fo, args := as, argTypes := ts }) = (ids ++ (F ++ List.range' id en.nf), quietC h ids F en.nf) := by
                    simp only [tch, tchC, hfo, hen, hids, hz]
                  have hw' := hw
                  unfold wb at hw
                  split at hw
                  case h_2 => cases hw
                  rename_i hck
                  have hck' := hck
                  simp only [Bool.and_eq_true] at hck'
                  have c2 := Nat.le_of_ble_eq_true hck'.2.1
                  have hloc := fun l : Bool => wbH_local (T := ids ++ (F ++ List.range' id en.nf)) (σ := sig2 h h' ids id) (h' := h') (ids := ids) (F := F) (id0 := id) (fun j hj => by
                    simp only [List.mem_append, List.mem_range'_1, not_or] at hj
                    exact ⟨hj.1, hj.2.1, fun hq => hj.2.2 ⟨hq.1, by omega⟩⟩) l
                  have key : ∀ l : Bool, (nofz r' && allNofz h') = !l → qa = rn (sig2 h h' ids id) r' → qb = wbH (sig2 h h' ids id) (if l = true then latch h F else h) h' ids id →
                      ∃ U : Heap → Heap, qb = U h ∧ Local (tch P C h id e (.call { callee := .value fo, args := as, argTypes := ts })).1 U ∧ ((tch P C h id e (.call { callee := .value fo, args := as, argTypes := ts })).2 = true → ∀ g, U g = g) ∧ ∀ h2, agree (tch P C h id e (.call { callee := .value fo, args := as, argTypes := ts })).1 h2 h →
                        (match reach h2 4 (dedup [] (byRef en.md (as.toList.map e ++ caps))) with
                          | ids => match fzA P h2 (sig1 h2 ids) en.md ts.toList (as.toList.map e ++ caps) with
                            | some (as, F) => match disj F ids with
                              | true => match hand h2 (sig1 h2 ids) ids with
                                | some hc => (en.tr as hc).run fun r h' => match wb h2 id ids F en.nf r h' with
                                  | some (r2, h3) => some (r2, h3)
                                  | none => none
                                | none => none
                              | false => none
                            | none => none) = some (qa, U h2) ∧ tch P C h2 id e (.call { callee := .value fo, args := as, argTypes := ts }) = tch P C h id e (.call { callee := .value fo, args := as, argTypes := ts }) := by
                    intro l hl hr hh1
                    by_cases hq : quietC h ids F en.nf = true
                    · obtain ⟨q1, q2, q3⟩ := quietC_spec hq
                      have hn0 : h' = [] := by
                        rw [q1, q2] at c2
                        exact List.eq_nil_of_length_eq_zero (by simpa using c2)
                      have hU : ∀ g, shutB g F = true → wbH (sig2 h h' ids id) (if l = true then latch g F else g) h' ids id = g := fun g hg => by
                        rw [q1, hn0]
                        show (if l = true then latch g F else g) = g
                        cases l with
                        | true => simp only [if_true]; exact latch_shut hg
                        | false => rfl
                      refine ⟨fun g => g, by rw [hh1, hU h q3], Local.id _, fun _ g => rfl, fun h2 ha => ?_⟩
                      rw [hT] at ha
                      have a1 : agree ids h2 h := fun j hj => ha j (List.mem_append_left _ hj)
                      have a2 : agree F h2 h := fun j hj => ha j (List.mem_append_right _ (List.mem_append_left _ hj))
                      have a3 : ∀ j, id ≤ j → j < id + (h'.length - ids.length) → h2[j]? = h[j]? := fun j h1 h3 => ha j (List.mem_append_right _ (List.mem_append_right _ (by rw [List.mem_range'_1]; omega)))
                      have e1 : reach h2 4 (dedup [] (byRef en.md (as.toList.map e ++ caps))) = ids := by
                        rw [reach_agree 4 _ (by rw [hids]; exact a1), hids]
                      have e2 := sig1_agree a1
                      have e3 := fzA_agree _ _ _ _ _ hz a2
                      have e4 : hand h2 (sig1 h ids) ids = some hc := by rw [hand_agree a1]; exact hh
                      have e5 := sig2_agree (h' := h') (id0 := id) a1
                      have e6 := blanksAt_agree (h := h) (h2 := h2) (n := h'.length - ids.length) (id := id) a3
                      have e7 : quietC h2 ids F en.nf = quietC h ids F en.nf := quietC_agree a2
                      constructor
                      · rw [e1]
                        simp only [e2, e3, hdj, e4, Tr.run_eq, hv, Option.bind_some]
                        have hw2 : wb h2 id ids F en.nf r' h' = some (qa, h2) := by
                          have hs2 : shutB h2 F = true := by rw [shutB_agree a2]; exact q3
                          have hh2 := hU h2 hs2
                          unfold wb
                          rw [e6, hck, e5, hl, hr]
                          cases l with
                          | true => simp only [if_true] at hh2; show some (_, wbH _ (latch h2 F) h' ids id) = _; rw [hh2]
                          | false => simp only [Bool.false_eq_true, if_false] at hh2; show some (_, wbH _ h2 h' ids id) = _; rw [hh2]
                        rw [hw2]
                      · rw [hT]
                        simp only [tch, tchC, hfo, hen, e1, e2, e3, e7]
                    refine ⟨fun g => wbH (sig2 h h' ids id) (if l = true then latch g F else g) h' ids id, hh1, by rw [hT]; exact hloc l, (fun hq2 => by rw [hT] at hq2; exact absurd hq2 hq), fun h2 ha => ?_⟩
                    rw [hT] at ha
                    have a1 : agree ids h2 h := fun j hj => ha j (List.mem_append_left _ hj)
                    have a2 : agree F h2 h := fun j hj => ha j (List.mem_append_right _ (List.mem_append_left _ hj))
                    have a3 : ∀ j, id ≤ j → j < id + (h'.length - ids.length) → h2[j]? = h[j]? := fun j h1 h3 => ha j (List.mem_append_right _ (List.mem_append_right _ (by rw [List.mem_range'_1]; omega)))
                    have e1 : reach h2 4 (dedup [] (byRef en.md (as.toList.map e ++ caps))) = ids := by
                      rw [reach_agree 4 _ (by rw [hids]; exact a1), hids]
                    have e2 := sig1_agree a1
                    have e3 := fzA_agree _ _ _ _ _ hz a2
                    have e4 : hand h2 (sig1 h ids) ids = some hc := by rw [hand_agree a1]; exact hh
                    have e5 := sig2_agree (h' := h') (id0 := id) a1
                    have e6 := blanksAt_agree (h := h) (h2 := h2) (n := h'.length - ids.length) (id := id) a3
                    constructor
                    · rw [e1]
                      simp only [e2, e3, hdj, e4, Tr.run_eq, hv, Option.bind_some]
                      have hw2 : wb h2 id ids F en.nf r' h' = some (qa, wbH (sig2 h h' ids id) (if l = true then latch h2 F else h2) h' ids id) := by
                        unfold wb
                        rw [e6, hck, e5, hl, hr]
                        cases l <;> rfl
                      rw [hw2]
                    · rw [hT]
                      have e7 : quietC h2 ids F en.nf = quietC h ids F en.nf := quietC_agree a2
                      simp only [tch, tchC, hfo, hen, e1, e2, e3, e7]
                  split at hw
                  · rename_i hnz
                    simp only [Option.some.injEq, Prod.mk.injEq] at hw
                    exact key false (by rw [hnz]; rfl) hw.1.symm (by rw [if_neg (by simp)]; exact hw.2.symm)
                  · rename_i hnz
                    simp only [Option.some.injEq, Prod.mk.injEq] at hw
                    exact key true (by rw [hnz]; rfl) hw.1.symm (by rw [if_pos rfl]; exact hw.2.symm)
    | _ => rw [hfo] at ho; cases ho
  · have e1 : ∀ h : Heap, opd P C id e h op = opv P h id e op := fun h => opd_plain fun fo as ts e => hc ⟨fo, as, ts, e⟩
    rw [e1] at ho
    obtain ⟨U, h2, h3, h4, h5⟩ := opv_loc (C := C) ho
    exact ⟨U, h2, h3, h4, fun g hg => ⟨by rw [e1, (h5 g hg).1], (h5 g hg).2⟩⟩
end Go.Proofs.YtkmkhcmfpbffjaaGreat.VI

namespace Go.Proofs.YtkmkhcmfpbffjaaGreat.VI
set_option linter.unusedVariables false
set_option linter.unusedSimpArgs false
open Go.Region (ready)
section
variable (P : Program) (C : Orc)
def dst (ops : Array Oper) (id : Nat) (o : Oper) (s : St) : Option St := stepk P C ops id o s some
end
def gd (ops : Array Oper) (o : Oper) (t : List V) : Option Bool := match o.guard with
  | none => some true
  | some (j, w) => match (ops[j]?).bind (·.dst) with
    | some d => match t.getD d .u with
      | .b x => some (x == w)
      | .tup [] => some false
      | _ => none
    | none => none
theorem dst_eq {P : Program} {C : Orc} {ops : Array Oper} {id : Nat} {o : Oper} {s : St} : dst P C ops id o s = match gd ops o s.t with
    | some true => (opd P C id (ev s.t) s.h o.op).bind fun p => some ⟨putt s.t o.dst p.1, p.2⟩
    | some false => some ⟨putt s.t o.dst (.tup []), s.h⟩
    | none => none := by
  unfold dst stepk gd
  cases o.guard with
  | none => simp only [fin_eq]; rw [opk_bind]
  | some jw =>
    obtain ⟨j, w⟩ := jw
    simp only
    cases (ops[j]?).bind (·.dst) with
    | none => rfl
    | some d =>
      simp only
      cases hx : s.t.getD d .u with
      | b x =>
        cases x with
        | true =>
          simp only [knk_eq, kn_eq hx]
          cases w with
          | true => simp only [stepg, fin_eq]; rw [opk_bind]; rfl
          | false => simp only [stepg, fin_eq]; rfl
        | false =>
          simp only [knk_eq, kn_eq hx]
          cases w with
          | false => simp only [stepg, fin_eq, Bool.not_false]; rw [opk_bind]; rfl
          | true => simp only [stepg, fin_eq, Bool.not_true]; rfl
      | tup l => cases l with
        | nil => simp only [stepg, fin_eq]
        | cons _ _ => rfl
      | _ => rfl
def same (ds : List Tmp) (t2 t : List V) : Prop := ∀ d ∈ ds, t2.getD d .u = t.getD d .u
theorem same_put {t : List V} {d : Option Tmp} {c : V} {ds : List Tmp} (h : ∀ k, d = some k → k ∉ ds) : same ds (putt t d c) t := by
  intro k hk
  cases d with
  | none => rfl
  | some d =>
    simp only [putt]
    have : d ≠ k := fun e => h d rfl (e ▸ hk)
    rw [List.getD_eq_getElem?_getD, List.getD_eq_getElem?_getD, List.getElem?_set_ne this]
theorem ev_same {ops : Array Oper} {o : Oper} {t2 t : List V} (h : same (o.looksAt ops) t2 t) : ∀ x ∈ o.op.operands, ev t2 x = ev t x := by
  intro x hx
  cases x with
  | tmp n =>
    simp only [ev]
    exact h n (List.mem_append_left _ (List.mem_filterMap.2 ⟨.tmp n, by simpa using hx, rfl⟩))
  | _ => rfl
theorem gd_same {ops : Array Oper} {o : Oper} {t2 t : List V} (h : same (o.looksAt ops) t2 t) : gd ops o t2 = gd ops o t := by
  unfold gd
  cases hg : o.guard with
  | none => rfl
  | some jw =>
    obtain ⟨j, w⟩ := jw
    simp only
    cases hd : (ops[j]?).bind (·.dst) with
    | none => rfl
    | some d =>
      simp only
      rw [h d (List.mem_append_right _ (by simp [hg, hd]))]
def acc (P : Program) (C : Orc) (id : Nat) (o : Oper) (s : St) : List Nat × Bool := tch P C s.h id (ev s.t) o.op
structure Loc (P : Program) (C : Orc) (ops : Array Oper) (id : Nat) (o : Oper) (s : St) (r : V) (U : Heap → Heap) : Prop where
  loc : Local (acc P C id o s).1 U
  q : (acc P C id o s).2 = true → ∀ g, U g = g
  st : ∀ t2 h2, same (o.looksAt ops) t2 s.t → agree (acc P C id o s).1 h2 s.h → dst P C ops id o ⟨t2, h2⟩ = some ⟨putt t2 o.dst r, U h2⟩ ∧ acc P C id o ⟨t2, h2⟩ = acc P C id o s
theorem dst_loc {P : Program} {C : Orc} {ops : Array Oper} {id : Nat} {o : Oper} {s s1 : St} (h : dst P C ops id o s = some s1) (hg : gd ops o s.t = some true) :
    ∃ r U, s1 = ⟨putt s.t o.dst r, U s.h⟩ ∧ Loc P C ops id o s r U := by
  rw [dst_eq, hg] at h
  simp only at h
  cases hv : opd P C id (ev s.t) s.h o.op with
  | none => rw [hv] at h; cases h
  | some p =>
    rw [hv] at h
    obtain ⟨r, h1⟩ := p
    simp only [Option.bind_some, Option.some.injEq] at h
    subst h
    obtain ⟨U, e1, e2, e3, e4⟩ := opd_loc hv
    subst e1
    refine ⟨r, U, rfl, e2, e3, fun t2 h2 hs ha => ?_⟩
    obtain ⟨k1, k2⟩ := e4 h2 ha
    have he := ev_same hs
    have hc := opd_congr (P := P) (C := C) (id := id) (h := h2) he
    refine ⟨?_, ?_⟩
    · rw [dst_eq, gd_same hs, hg]
      simp only [hc, k1, Option.bind_some]
    · unfold acc
      rw [(opv_congr (P := P) (C := C) (h := h2) (id := id) he).2]
      exact k2
def gacc (P : Program) (C : Orc) (ops : Array Oper) (id : Nat) (o : Oper) (s : St) : List Nat × Bool := match gd ops o s.t with
  | some true => acc P C id o s
  | _ => ([], true)
structure GLoc (P : Program) (C : Orc) (ops : Array Oper) (id : Nat) (o : Oper) (s : St) (r : V) (U : Heap → Heap) : Prop where
  loc : Local (gacc P C ops id o s).1 U
  q : (gacc P C ops id o s).2 = true → ∀ g, U g = g
  st : ∀ t2 h2, same (o.looksAt ops) t2 s.t → agree (gacc P C ops id o s).1 h2 s.h → dst P C ops id o ⟨t2, h2⟩ = some ⟨putt t2 o.dst r, U h2⟩ ∧ gacc P C ops id o ⟨t2, h2⟩ = gacc P C ops id o s
theorem dst_gloc {P : Program} {C : Orc} {ops : Array Oper} {id : Nat} {o : Oper} {s s1 : St} (h : dst P C ops id o s = some s1) : ∃ r U, s1 = ⟨putt s.t o.dst r, U s.h⟩ ∧ GLoc P C ops id o s r U := by
  have h0 := h
  rw [dst_eq] at h
  split at h
  · rename_i hg
    obtain ⟨r, U, e, L⟩ := dst_loc h0 hg
    have eg : gacc P C ops id o s = acc P C id o s := by unfold gacc; rw [hg]
    refine ⟨r, U, e, by rw [eg]; exact L.loc, by rw [eg]; exact L.q, fun t2 h2 hs ha => ?_⟩
    rw [eg] at ha ⊢
    obtain ⟨k1, k2⟩ := L.st t2 h2 hs ha
    refine ⟨k1, ?_⟩
    unfold gacc
    rw [gd_same hs, hg]
    exact k2
  · rename_i hg
    simp only [Option.some.injEq] at h
    subst h
    have eg : gacc P C ops id o s = ([], true) := by unfold gacc; rw [hg]
    refine ⟨(.tup []), fun g => g, rfl, by rw [eg]; exact Local.id _, fun _ _ => rfl, fun t2 h2 hs ha => ⟨?_, ?_⟩⟩
    · rw [dst_eq, gd_same hs, hg]
    · rw [eg]; unfold gacc; rw [gd_same hs, hg]
  · cases h
def compat (a b : List Nat × Bool) : Bool := (a.2 && b.2) || a.1.all fun i => !b.1.contains i
theorem compat_spec {a b : List Nat × Bool} (h : compat a b = true) : (a.2 = true ∧ b.2 = true) ∨ ∀ i ∈ a.1, i ∉ b.1 := by
  simp only [compat, Bool.or_eq_true, Bool.and_eq_true] at h
  rcases h with h | h
  · exact .inl h
  · refine .inr fun i hi hb => ?_
    have := List.all_eq_true.1 h i hi
    rw [List.contains_iff_mem.2 hb] at this
    cases this
theorem compat_symm {a b : List Nat × Bool} (h : compat a b = true) : compat b a = true := by
  rcases compat_spec h with h | h
  · simp [compat, h.1, h.2]
  · simp only [compat, Bool.or_eq_true]
    refine .inr (List.all_eq_true.2 fun i hi => ?_)
    cases hc : a.1.contains i with
    | false => rfl
    | true => exact absurd hi (h i (List.contains_iff_mem.1 hc))
theorem agree_of_compat {T : List Nat} {q : Bool} {U : Heap → Heap} {b : List Nat × Bool} (hl : Local T U) (hq : q = true → ∀ g, U g = g) (hc : compat (T, q) b = true) (h : Heap) : agree b.1 (U h) h := by
  intro j hj
  rcases compat_spec hc with ⟨k, _⟩ | k
  · rw [hq k]
  · exact hl.out h j fun e => k j e hj
theorem swap {P : Program} {C : Orc} {ops : Array Oper} {id id' : Nat} {o o' : Oper} {s s1 s2 : St} (hap : o.apart ops o' = true) (hc : compat (gacc P C ops id o s) (gacc P C ops id' o' s1) = true)
    (h1 : dst P C ops id o s = some s1) (h2 : dst P C ops id' o' s1 = some s2) :
    gacc P C ops id' o' s = gacc P C ops id' o' s1 ∧ ∃ s1', dst P C ops id' o' s = some s1' ∧ dst P C ops id o s1' = some s2 ∧ gacc P C ops id o s1' = gacc P C ops id o s := by
  obtain ⟨a1, a2, a3⟩ := Oper.apart_spec hap
  obtain ⟨r, U, rfl, L⟩ := dst_gloc h1
  obtain ⟨r', U', rfl, L'⟩ := dst_gloc h2
  have hs : same (o'.looksAt ops) s.t (putt s.t o.dst r) := fun d hd => (same_put a1 d hd).symm
  have hag : agree (gacc P C ops id' o' ⟨putt s.t o.dst r, U s.h⟩).1 s.h (U s.h) := fun j hj => (agree_of_compat L.loc L.q hc s.h j hj).symm
  obtain ⟨k1, k2⟩ := L'.st s.t s.h hs hag
  refine ⟨k2, _, k1, ?_⟩
  have hag' : agree (gacc P C ops id o s).1 (U' s.h) s.h := agree_of_compat L'.loc L'.q (compat_symm hc) s.h
  obtain ⟨m1, m2⟩ := L.st (putt s.t o'.dst r') (U' s.h) (same_put a3) hag'
  refine ⟨?_, m2⟩
  rw [m1]
  have e1 : putt (putt s.t o'.dst r') o.dst r = putt (putt s.t o.dst r) o'.dst r' := by
    cases hd : o.dst with
    | none => rfl
    | some d =>
      cases hd' : o'.dst with
      | none => rfl
      | some d' => simp only [putt]; exact List.set_comm _ _ (fun e => a2 d hd (by rw [hd', e]))
  have e2 : U (U' s.h) = U' (U s.h) := by
    rcases compat_spec hc with ⟨q1, q2⟩ | hd
    · rw [L.q q1, L.q q1]
    · exact L.loc.comm L'.loc hd s.h
  rw [e1, e2]
end Go.Proofs.YtkmkhcmfpbffjaaGreat.VI
