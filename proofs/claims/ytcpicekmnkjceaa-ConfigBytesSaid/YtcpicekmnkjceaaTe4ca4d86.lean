import Derived.Test.YtcpicekmnkjceaaT23998fb5
namespace Go.Proofs.Ytcpicekmnkjceaa.VI
set_option linter.unusedVariables false
set_option linter.unusedSimpArgs false
set_option linter.unusedSimpArgs false
set_option linter.unusedVariables false
set_option maxRecDepth 100000
set_option maxHeartbeats 4000000
def wdec (b : List Int) : Nat → List Int
  | 0 => []
  | i + 1 => wdec b i ++ [leN 2 (b.drop (9 + 2 * i))]
theorem wdec_len (b : List Int) : ∀ i, (wdec b i).length = i
  | 0 => rfl
  | i + 1 => by simp [wdec, wdec_len b i]
abbrev CfgF : Type := Int × Int × Int × Int × Int × Int × Int × Int × Int × Int × Int × Int × Int × Int × Int × Int × Int × Bool × Int × Int × Int × Int × Int × Int × Int × Unit
def decF (q : List Int) (ch : Bool) : CfgF :=
  (leN 1 (q.drop 0), leN 1 (q.drop 1), leN 1 (q.drop 2), leN 1 (q.drop 3), leN 1 (q.drop 4), leN 4 (q.drop 6), leN 4 (q.drop 10), leN 4 (q.drop 14), leN 4 (q.drop 18), leN 4 (q.drop 22), leN 4 (q.drop 26),
    leN 4 (q.drop 34), leN 4 (q.drop 38), leN 2 (q.drop 50), leN 2 (q.drop 52), leN 8 (q.drop 59), leN 4 (q.drop 30), ch, leN 1 (q.drop 54), leN 1 (q.drop 55), leN 1 (q.drop 56), leN 1 (q.drop 57), leN 1 (q.drop 58), leN 4 (q.drop 42), leN 4 (q.drop 46), ())
theorem leN_i64 {q : List Int} (h : byt q) (j : Nat) {k : Nat} (hk : k ≤ 4) : IntKind.i64.wrap (leN k (q.drop j)) = leN k (q.drop j) := by
  have := leN_bd (byt_drop h j) k
  have h2 : (2 : Int) ^ (8 * k) ≤ 4294967296 := pow_le32 (8 * k) (by omega)
  exact wi64 (by omega)
theorem leN_u32 {q : List Int} (h : byt q) (j : Nat) {k : Nat} (hk : k ≤ 4) : 0 ≤ leN k (q.drop j) ∧ leN k (q.drop j) < 4294967296 := by
  have := leN_bd (byt_drop h j) k
  have h2 : (2 : Int) ^ (8 * k) ≤ 4294967296 := pow_le32 (8 * k) (by omega)
  omega
theorem leN_w32 {q : List Int} (h : byt q) (j : Nat) {k : Nat} (hk : k ≤ 4) : IntKind.u32.wrap (leN k (q.drop j)) = leN k (q.drop j) := by
  have := leN_u32 h j hk
  exact wu32 (by omega)
theorem tkj {α : Type} {q : List Int} (h : byt q) (hL : q.length ≤ 1073741824) (j : Nat) {k : Nat} (hk : k ≤ 8) (hl : j + k ≤ q.length) {K : Int × ((List Int × Unit) × Unit) → Option α} :
    (F_config_take (k : Int) (q.drop j, ())).bind K = K (leN k (q.drop j), (q.drop (j + k), ()), ()) := by
  rw [take_eq (byt_drop h j) hk (by simp; omega) (by simp; omega)]
  simp [List.drop_drop]
theorem tkj1 {α : Type} {q : List Int} (h : byt q) (hL : q.length ≤ 1073741824) {j : Nat} (hl : j + 1 ≤ q.length) {K : Int × ((List Int × Unit) × Unit) → Option α} :
    (F_config_take 1 (q.drop j, ())).bind K = K (leN 1 (q.drop j), (q.drop (j + 1), ()), ()) := tkj (k := 1) h hL j (by omega) hl
theorem tkj2 {α : Type} {q : List Int} (h : byt q) (hL : q.length ≤ 1073741824) {j : Nat} (hl : j + 2 ≤ q.length) {K : Int × ((List Int × Unit) × Unit) → Option α} :
    (F_config_take 2 (q.drop j, ())).bind K = K (leN 2 (q.drop j), (q.drop (j + 2), ()), ()) := tkj (k := 2) h hL j (by omega) hl
theorem tkj4 {α : Type} {q : List Int} (h : byt q) (hL : q.length ≤ 1073741824) {j : Nat} (hl : j + 4 ≤ q.length) {K : Int × ((List Int × Unit) × Unit) → Option α} :
    (F_config_take 4 (q.drop j, ())).bind K = K (leN 4 (q.drop j), (q.drop (j + 4), ()), ()) := tkj (k := 4) h hL j (by omega) hl
theorem tkj8 {α : Type} {q : List Int} (h : byt q) (hL : q.length ≤ 1073741824) {j : Nat} (hl : j + 8 ≤ q.length) {K : Int × ((List Int × Unit) × Unit) → Option α} :
    (F_config_take 8 (q.drop j, ())).bind K = K (leN 8 (q.drop j), (q.drop (j + 8), ()), ()) := tkj (k := 8) h hL j (by omega) hl
theorem fill_eq {q : List Int} (h : byt q) (hl : q.length = 67) (n : Nat) (B : CfgF) (a2 : List Int) : F_config_fill q (n, B) a2 = some ((), (n, decF q (leN 1 (q.drop 5) != 0)), a2, ()) := by
  have hL : q.length ≤ 1073741824 := by omega
  have e0 : q = q.drop 0 := by simp
  unfold F_config_fill
  simp only [List.take_length]
  conv => lhs; arg 1; rw [e0]
  iterate 6 (rw [tkj1 h hL (by omega)]; dsimp only)
  iterate 11 (rw [tkj4 h hL (by omega)]; dsimp only)
  iterate 2 (rw [tkj2 h hL (by omega)]; dsimp only)
  iterate 5 (rw [tkj1 h hL (by omega)]; dsimp only)
  rw [tkj8 h hL (by omega)]
  simp only [leN_i64 h _ (show 1 ≤ 4 by omega), leN_i64 h _ (show 2 ≤ 4 by omega), leN_i64 h _ (show 4 ≤ 4 by omega), leN_w32 h _ (show 4 ≤ 4 by omega), decF, Nat.reduceAdd, List.set_cons_zero, List.getD_cons_zero]
end Go.Proofs.Ytcpicekmnkjceaa.VI

namespace Go.Proofs.Ytcpicekmnkjceaa.VI
set_option linter.unusedVariables false
set_option linter.unusedSimpArgs false
set_option linter.unusedSimpArgs false
set_option linter.unusedVariables false
set_option maxRecDepth 100000
set_option maxHeartbeats 4000000
theorem b8_id {l : List Int} (h : byt l) : l.map b8 = l := by
  have : ∀ e ∈ l, b8 e = e := fun e he => by
    obtain ⟨i, hi, rfl⟩ := List.getElem_of_mem he
    have := h i
    rw [List.getD_eq_getElem?_getD, List.getElem?_eq_getElem hi] at this
    simp only [Option.getD_some] at this
    unfold b8; omega
  calc l.map b8 = l.map id := List.map_congr_left this
    _ = l := List.map_id l
theorem byt_mem {l : List Int} (h : ∀ e ∈ l, 0 ≤ e ∧ e < 256) : byt l := fun i => by
  rw [List.getD_eq_getElem?_getD]
  cases hl : l[i]? with
  | none => simp
  | some e => exact h e (List.mem_of_getElem? hl)
theorem bts_mem {k : Nat} {v e : Int} (h : e ∈ bts k v) : 0 ≤ e ∧ e < 256 := by
  simp only [bts, List.mem_map] at h
  obtain ⟨i, _, rfl⟩ := h
  omega
theorem wbs_mem {w : List Int} {e : Int} : ∀ {i : Nat}, e ∈ wbs w i → 0 ≤ e ∧ e < 256
  | 0, h => by simp [wbs] at h
  | i + 1, h => by
    simp only [wbs, List.mem_append] at h
    rcases h with h | h
    · exact wbs_mem h
    · exact bts_mem h
theorem enc_byt {c : CfgT} (hr : right c) : byt (enc_ c) := by
  refine byt_mem fun e he => ?_
  obtain ⟨w, f, act, loss, opt, sched, rate, mu, beta, eps, decay, clip, warm, total, batch, accum, seed, drop, chance, log, mi, ma, bk, gr, itv, save, _⟩ := c
  obtain ⟨⟨_, w2, _⟩, _, ⟨k1, k2, k3, k4, k5⟩, _, ⟨q1, q2, q3, q4, q5, q6, q7, q8, q9, q10, q11, q12⟩, _⟩ := hr
  simp only [CfgT.f, CfgT.act, CfgT.loss, CfgT.opt, CfgT.sched, CfgT.rate, CfgT.mu, CfgT.beta, CfgT.eps, CfgT.decay, CfgT.clip, CfgT.warm, CfgT.total, CfgT.batch, CfgT.accum, CfgT.seed, CfgT.drop, CfgT.chance, CfgT.log, CfgT.mi, CfgT.ma, CfgT.bk, CfgT.gr, CfgT.itv, CfgT.save, CfgT.w] at *
  have hf : 0 ≤ flagN chance ∧ flagN chance ≤ 1 := by cases chance <;> simp [flagN]
  simp only [enc_, head, tail, CfgT.f, CfgT.act, CfgT.loss, CfgT.opt, CfgT.sched, CfgT.rate, CfgT.mu, CfgT.beta, CfgT.eps, CfgT.decay, CfgT.clip, CfgT.warm, CfgT.total, CfgT.batch, CfgT.accum, CfgT.seed, CfgT.drop, CfgT.chance, CfgT.log, CfgT.mi, CfgT.ma, CfgT.bk, CfgT.gr, CfgT.itv, CfgT.save, CfgT.w, List.mem_append, List.mem_cons, List.not_mem_nil, or_false] at he
  rcases he with he | he | he
  · rcases he with rfl | rfl | rfl | rfl | rfl | rfl | rfl | rfl | rfl <;> omega
  · exact wbs_mem he
  rcases he with he | he
  · rcases he with rfl | rfl | rfl | rfl | rfl | rfl <;> omega
  iterate 13
    rcases he with he | he
    · exact bts_mem he
  rcases he with he | he
  · rcases he with rfl | rfl | rfl | rfl | rfl <;> omega
  · exact bts_mem he
def nW (b : List Int) : Nat := (b.getD 8 0).toNat
def decC (b : List Int) (ch : Bool) : CfgT := (wdec b (nW b), decF (b.drop (9 + 2 * nW b)) ch)
def decP (b : List Int) : CfgT := decC b (leN 1 ((b.drop (9 + 2 * nW b)).drop 5) != 0)
def decQ (b : List Int) : CfgT := decC b (leN 1 ((b.drop (9 + 2 * nW b)).drop 5) == 1)
theorem decC_cU {b : List Int} (h : byt b) (ch : Bool) : cU (decC b ch) := by
  have hq := byt_drop h (9 + 2 * nW b)
  exact ⟨leN_u32 hq 6 (by omega), leN_u32 hq 10 (by omega), leN_u32 hq 14 (by omega), leN_u32 hq 18 (by omega), leN_u32 hq 22 (by omega), leN_u32 hq 26 (by omega)⟩
theorem decC_sd {b : List Int} (h : byt b) (ch : Bool) : (0 ≤ (decC b ch).seed ∧ (decC b ch).seed < 18446744073709551616) ∧ 0 ≤ (decC b ch).drop := by
  have hq := byt_drop h (9 + 2 * nW b)
  exact ⟨leN_64 (byt_drop hq 59) (by omega), (leN_u32 hq 30 (by omega)).1⟩
def zCfg : CfgT := ([], 0, 0, 0, 0, 0, 0, 0, 0, 0, 0, 0, 0, 0, 0, 0, 0, 0, false, 0, 0, 0, 0, 0, 0, 0, ())
def isE (b : List Int) (c : CfgT) : Prop := right c ∧ enc_ c = b
noncomputable instance (b : List Int) (c : CfgT) : Decidable (isE b c) := Classical.propDecidable _
theorem nW_bd {b : List Int} (h : byt b) : nW b < 256 ∧ (nW b : Int) = b.getD 8 0 := by
  have := h 8; unfold nW; omega
theorem isE_len {b : List Int} {c : CfgT} (h : isE b c) : b.length = 76 + 2 * nW b ∧ b.take 8 = [65, 78, 78, 69, 65, 76, 49, 0] ∧ nW b = c.1.length := by
  obtain ⟨h1, h2⟩ := h
  have hn : nW b = c.1.length := by subst h2; simp [nW, enc_, head]
  refine ⟨?_, ?_, hn⟩
  · rw [hn, ← h2, enc_len]
  · subst h2; simp [enc_, head]
theorem cread_eq {b : List Int} (h : byt b) (hL : b.length ≤ 1073741824) : F_config_Read b = some (if isE b (decP b) then (decP b, 0, ()) else (zCfg, 20, ())) := by
  obtain ⟨n1, n2⟩ := nW_bd h
  unfold F_config_Read
  have e0 : IntKind.i64.wrap (b.getD 8 0) = (nW b : Int) := by rw [← n2]; exact wi64 (by omega)
  rw [bif_dec]
  split
  · rename_i hl
    rw [if_neg]; rfl
    intro k; have := (isE_len k).1; omega
  rename_i hl
  have c0 : ((0 : Int) ≤ 0 ∧ (0 : Int) ≤ 8 ∧ (8 : Int) ≤ (b.length : Int)) = True := by simp; omega
  have c1 : ((0 : Int) ≤ 8 ∧ (8 : Int) < (b.length : Int)) = True := by simp; omega
  have c2 : ((0 : Int) ≤ 9 ∧ (9 : Int) ≤ (b.length : Int) ∧ (b.length : Int) ≤ (b.length : Int)) = True := by simp; omega
  simp only [c0, c1, c2, decide_true, cond_true, List.take_take, Nat.min_self, List.drop_zero, e0, List.take_length]
  have hb8 : (b.take 8).map b8 = b.take 8 := by rw [List.map_take, b8_id h]
  rw [hb8]
  have w : IntKind.i64.wrap (IntKind.i64.wrap (IntKind.i64.wrap (IntKind.i64.wrap (IntKind.i64.wrap (IntKind.i64.wrap (9 + IntKind.i64.wrap (2 * (nW b : Int))) + 6) + 44) + 4) + 5) + 8) = ((76 + 2 * nW b : Nat) : Int) := by
    rw [wi64 (n := 2 * (nW b : Int)) (by omega), wi64 (n := 9 + _) (by omega), wi64 (n := _ + 6) (by omega), wi64 (n := _ + 44) (by omega), wi64 (n := _ + 4) (by omega), wi64 (n := _ + 5) (by omega), wi64 (by omega)]
    omega
  rw [w]
  by_cases hm : b.take 8 = [65, 78, 78, 69, 65, 76, 49, 0]
  case neg =>
    have : (b.take 8 == [65, 78, 78, 69, 65, 76, 49, 0]) = false := by simpa using hm
    rw [this, if_neg fun k => hm (isE_len k).2.1]; rfl
  have hm' : (b.take 8 == [65, 78, 78, 69, 65, 76, 49, 0]) = true := by simpa using hm
  simp only [hm', Bool.not_true, cond_false, bif_ne]
  by_cases hlen : b.length = 76 + 2 * nW b
  case neg => rw [if_neg (by omega), if_neg fun k => hlen (isE_len k).1]; rfl
  rw [if_pos (by omega)]
  have hq := byt_drop h (9 + 2 * nW b)
  have hql : (b.drop (9 + 2 * nW b)).length = 67 := by simp; omega
  have hd9 : List.take ((b.length : Int).toNat - 9) (b.drop 9) = b.drop 9 := List.take_of_length_le (by simp)
  rw [hd9]
  have key : ∀ (A B : CfgF), lim st_config_Read_0 ((b, ((nW b : Int), (0, ()))), (A, ((0, B), ((b.drop 9, ()), ([], ()))))) = some ((b, ()), (A, ((nW b, B), ((b.drop (9 + 2 * nW b), ()), (wdec b (nW b), ()))))) := fun A B => by
    have := lim_seq (st := st_config_Read_0) (fun i => ((b, ((nW b : Int), ((i : Int), ()))), (A, ((i, B), ((b.drop (9 + 2 * i), ()), (wdec b i, ())))))) (b := ((b, ()), (A, ((nW b, B), ((b.drop (9 + 2 * nW b), ()), (wdec b (nW b), ())))))) (nW b) (fun i hi R kn ko => by
      have w1 : IntKind.i64.wrap ((i : Int) + 1) = ((i + 1 : Nat) : Int) := by rw [wi64 (by omega)]; omega
      have hb : (i + 1 ≤ 1073741824) = True := by simp; omega
      have ht : (wdec b i).take i = wdec b i := List.take_of_length_le (by rw [wdec_len]; exact Nat.le_refl _)
      simp only [st_config_Read_0, ltI hi, decide_true, cond_true, List.take_length]
      rw [tkj2 h hL (by omega)]
      simp only [hb, decide_true, cond_true, w1, ht, wdec, List.take_length, leN_i64 h _ (show 2 ≤ 4 by omega)]
      rfl) (fun R kn ko => by
      simp only [st_config_Read_0, ltI', decide_false, cond_false, List.take_length])
    simpa [wdec] using this
  rw [key]
  simp only [Option.bind_some, List.take_length]
  rw [fill_eq hq hql]
  simp only [Option.bind_some, List.drop_zero]
  have ht : (wdec b (nW b)).take (nW b) = wdec b (nW b) := List.take_of_length_le (by rw [wdec_len]; exact Nat.le_refl _)
  rw [ht]
  show ((F_config_Put (decP b)).bind _) = _
  rw [cput_eq (c := decP b) (decC_cU h _) (decC_sd h _)]
  by_cases hr : right (decP b)
  case neg => rw [if_neg hr, if_neg fun k => hr k.1]; rfl
  rw [if_pos hr]
  simp only [Option.bind_some, bif_ne, if_true, List.take_length]
  rw [b8_id h]
  by_cases he : enc_ (decP b) = b
  · have hbe : byt (enc_ (decP b)) := by rw [he]; exact h
    rw [b8_id hbe, if_pos ⟨hr, he⟩]
    have : (enc_ (decP b) == b) = true := by simpa using he
    rw [this]; rfl
  · rw [if_neg fun k => he k.2]
    rw [b8_id (enc_byt hr)]
    have : (enc_ (decP b) == b) = false := by simpa using he
    rw [this]; rfl
end Go.Proofs.Ytcpicekmnkjceaa.VI

namespace Go.Proofs.Ytcpicekmnkjceaa.VI
set_option linter.unusedVariables false
set_option linter.unusedSimpArgs false
set_option linter.unusedSimpArgs false
set_option linter.unusedVariables false
set_option maxRecDepth 100000
set_option maxHeartbeats 4000000
theorem leN1 (xs : List Int) : leN 1 xs = xs.getD 0 0 := by simp [leN]
theorem leN1d (q : List Int) (j : Nat) : q.getD j 0 = leN 1 (q.drop j) := by
  rw [leN1]; simp [List.getD_eq_getElem?_getD, List.getElem?_drop]
theorem i64_byt {q : List Int} (h : byt q) (j : Nat) : IntKind.i64.wrap (leN 1 (q.drop j)) = leN 1 (q.drop j) := leN_i64 h j (by omega)
theorem rread_eq {b : List Int} (h : byt b) (hL : b.length ≤ 1073741824) : F_annealref24_Read b = some (if isE b (decQ b) then (decQ b, 0, ()) else (zCfg, 20, ())) := by
  obtain ⟨n1, n2⟩ := nW_bd h
  unfold F_annealref24_Read
  have e0 : IntKind.i64.wrap (b.getD 8 0) = (nW b : Int) := by rw [← n2]; exact wi64 (by omega)
  rw [bif_dec]
  split
  · rename_i hl
    rw [if_neg]; rfl
    intro k; have := (isE_len k).1; omega
  rename_i hl
  have c1 : ((0 : Int) ≤ 8 ∧ (8 : Int) < (b.length : Int)) = True := by simp; omega
  simp only [c1, decide_true, cond_true, e0, List.take_length]
  have w : IntKind.i64.wrap (IntKind.i64.wrap (IntKind.i64.wrap (IntKind.i64.wrap (IntKind.i64.wrap (IntKind.i64.wrap (9 + IntKind.i64.wrap (2 * (nW b : Int))) + 6) + 44) + 4) + 5) + 8) = ((76 + 2 * nW b : Nat) : Int) := by
    rw [wi64 (n := 2 * (nW b : Int)) (by omega), wi64 (n := 9 + _) (by omega), wi64 (n := _ + 6) (by omega), wi64 (n := _ + 44) (by omega), wi64 (n := _ + 4) (by omega), wi64 (n := _ + 5) (by omega), wi64 (by omega)]
    omega
  rw [w, bif_ne]
  by_cases hlen : b.length = 76 + 2 * nW b
  case neg => rw [if_neg (by omega), if_neg fun k => hlen (isE_len k).1]; rfl
  rw [if_pos (by omega)]
  have hq := byt_drop h (9 + 2 * nW b)
  have hql : (b.drop (9 + 2 * nW b)).length = 67 := by simp; omega
  have key : ∀ (A B : CfgF), lim st_annealref24_Read_0 ((b, ((nW b : Int), (0, ()))), (A, ((0, B), ([], ())))) = some ((b, ((nW b : Int), ())), (A, ((nW b, B), (wdec b (nW b), ())))) := fun A B => by
    have := lim_seq (st := st_annealref24_Read_0) (fun i => ((b, ((nW b : Int), ((i : Int), ()))), (A, ((i, B), (wdec b i, ()))))) (b := ((b, ((nW b : Int), ())), (A, ((nW b, B), (wdec b (nW b), ()))))) (nW b) (fun i hi R kn ko => by
      have w1 : IntKind.i64.wrap ((i : Int) + 1) = ((i + 1 : Nat) : Int) := by rw [wi64 (by omega)]; omega
      have w2 : IntKind.i64.wrap (9 + IntKind.i64.wrap (2 * (i : Int))) = ((9 + 2 * i : Nat) : Int) := by rw [wi64 (n := 2 * (i : Int)) (by omega), wi64 (by omega)]; omega
      have hb : (i + 1 ≤ 1073741824) = True := by simp; omega
      have ht : (wdec b i).take i = wdec b i := List.take_of_length_le (by rw [wdec_len]; exact Nat.le_refl _)
      have c3 : ((0 : Int) ≤ ((9 + 2 * i : Nat) : Int) ∧ ((9 + 2 * i : Nat) : Int) ≤ (b.length : Int) ∧ (b.length : Int) ≤ (b.length : Int)) = True := by simp; omega
      have hd : List.take ((b.length : Int).toNat - (9 + 2 * i)) (b.drop (9 + 2 * i)) = b.drop (9 + 2 * i) := List.take_of_length_le (by simp)
      have hr : F_annealref24_take (b.drop (9 + 2 * i)) 2 = some (leN 2 (b.drop (9 + 2 * i))) := rtake_eq (k := 2) (byt_drop h _) (by omega) (by simp; omega) (by simp; omega)
      simp only [st_annealref24_Read_0, ltI hi, w2, c3, decide_true, cond_true, List.take_length, Int.toNat_natCast, List.take_take, Nat.min_self]
      simp only [Int.toNat_natCast] at hd
      rw [hd, hr]
      simp only [Option.bind_some, hb, decide_true, cond_true, w1, ht, wdec, leN_i64 h _ (show 2 ≤ 4 by omega)]) (fun R kn ko => by
      simp only [st_annealref24_Read_0, ltI', decide_false, cond_false, List.take_length])
    simpa [wdec] using this
  rw [key]
  have e9 : IntKind.i64.wrap (9 + IntKind.i64.wrap (2 * (nW b : Int))) = ((9 + 2 * nW b : Nat) : Int) := by rw [wi64 (n := 2 * (nW b : Int)) (by omega), wi64 (by omega)]; omega
  have c3 : ((0 : Int) ≤ ((9 + 2 * nW b : Nat) : Int) ∧ ((9 + 2 * nW b : Nat) : Int) ≤ (b.length : Int) ∧ (b.length : Int) ≤ (b.length : Int)) = True := by simp; omega
  have hs : b.length - (9 + 2 * nW b) = 67 := by omega
  simp only [Option.bind_some, e9, c3, decide_true, cond_true, Int.toNat_natCast, hs, List.take_take, Nat.min_self, List.take_length]
  have h67 : (b.drop (9 + 2 * nW b)).take 67 = b.drop (9 + 2 * nW b) := List.take_of_length_le (by omega)
  rw [h67]
  have ht : (wdec b (nW b)).take (nW b) = wdec b (nW b) := List.take_of_length_le (by rw [wdec_len]; exact Nat.le_refl _)
  have hput := rput_eq (c := decQ b) (decC_cU h _) (decC_sd h _)
  unfold decQ decC at hput ⊢
  generalize b.drop (9 + 2 * nW b) = q at *
  have t6 : List.take 61 (q.drop 6) = q.drop 6 := List.take_of_length_le (by simp; omega)
  have t10 : List.take 57 (q.drop 10) = q.drop 10 := List.take_of_length_le (by simp; omega)
  have t14 : List.take 53 (q.drop 14) = q.drop 14 := List.take_of_length_le (by simp; omega)
  have t18 : List.take 49 (q.drop 18) = q.drop 18 := List.take_of_length_le (by simp; omega)
  have t22 : List.take 45 (q.drop 22) = q.drop 22 := List.take_of_length_le (by simp; omega)
  have t26 : List.take 41 (q.drop 26) = q.drop 26 := List.take_of_length_le (by simp; omega)
  have t30 : List.take 37 (q.drop 30) = q.drop 30 := List.take_of_length_le (by simp; omega)
  have t34 : List.take 33 (q.drop 34) = q.drop 34 := List.take_of_length_le (by simp; omega)
  have t38 : List.take 29 (q.drop 38) = q.drop 38 := List.take_of_length_le (by simp; omega)
  have t42 : List.take 25 (q.drop 42) = q.drop 42 := List.take_of_length_le (by simp; omega)
  have t46 : List.take 21 (q.drop 46) = q.drop 46 := List.take_of_length_le (by simp; omega)
  have t50 : List.take 17 (q.drop 50) = q.drop 50 := List.take_of_length_le (by simp; omega)
  have t52 : List.take 15 ((q.drop 50).drop 2) = q.drop 52 := by rw [List.drop_drop]; exact List.take_of_length_le (by simp; omega)
  have t59 : List.take 8 ((q.drop 50).drop 9) = q.drop 59 := by rw [List.drop_drop]; exact List.take_of_length_le (by simp; omega)
  have r6 : F_annealref24_take (q.drop 6) 4 = some (leN 4 (q.drop 6)) := rtake_eq (k := 4) (byt_drop hq _) (by omega) (by simp; omega) (by simp; omega)
  have r10 : F_annealref24_take (q.drop 10) 4 = some (leN 4 (q.drop 10)) := rtake_eq (k := 4) (byt_drop hq _) (by omega) (by simp; omega) (by simp; omega)
  have r14 : F_annealref24_take (q.drop 14) 4 = some (leN 4 (q.drop 14)) := rtake_eq (k := 4) (byt_drop hq _) (by omega) (by simp; omega) (by simp; omega)
  have r18 : F_annealref24_take (q.drop 18) 4 = some (leN 4 (q.drop 18)) := rtake_eq (k := 4) (byt_drop hq _) (by omega) (by simp; omega) (by simp; omega)
  have r22 : F_annealref24_take (q.drop 22) 4 = some (leN 4 (q.drop 22)) := rtake_eq (k := 4) (byt_drop hq _) (by omega) (by simp; omega) (by simp; omega)
  have r26 : F_annealref24_take (q.drop 26) 4 = some (leN 4 (q.drop 26)) := rtake_eq (k := 4) (byt_drop hq _) (by omega) (by simp; omega) (by simp; omega)
  have r30 : F_annealref24_take (q.drop 30) 4 = some (leN 4 (q.drop 30)) := rtake_eq (k := 4) (byt_drop hq _) (by omega) (by simp; omega) (by simp; omega)
  have r34 : F_annealref24_take (q.drop 34) 4 = some (leN 4 (q.drop 34)) := rtake_eq (k := 4) (byt_drop hq _) (by omega) (by simp; omega) (by simp; omega)
  have r38 : F_annealref24_take (q.drop 38) 4 = some (leN 4 (q.drop 38)) := rtake_eq (k := 4) (byt_drop hq _) (by omega) (by simp; omega) (by simp; omega)
  have r42 : F_annealref24_take (q.drop 42) 4 = some (leN 4 (q.drop 42)) := rtake_eq (k := 4) (byt_drop hq _) (by omega) (by simp; omega) (by simp; omega)
  have r46 : F_annealref24_take (q.drop 46) 4 = some (leN 4 (q.drop 46)) := rtake_eq (k := 4) (byt_drop hq _) (by omega) (by simp; omega) (by simp; omega)
  have r50 : F_annealref24_take (q.drop 50) 2 = some (leN 2 (q.drop 50)) := rtake_eq (k := 2) (byt_drop hq _) (by omega) (by simp; omega) (by simp; omega)
  have r52 : F_annealref24_take (q.drop 52) 2 = some (leN 2 (q.drop 52)) := rtake_eq (k := 2) (byt_drop hq _) (by omega) (by simp; omega) (by simp; omega)
  have r59 : F_annealref24_take (q.drop 59) 8 = some (leN 8 (q.drop 59)) := rtake_eq (k := 8) (byt_drop hq _) (by omega) (by simp; omega) (by simp; omega)
  have g4 : (q.drop 50).getD 4 0 = leN 1 (q.drop 54) := by rw [leN1d, List.drop_drop]
  have g5 : (q.drop 50).getD 5 0 = leN 1 (q.drop 55) := by rw [leN1d, List.drop_drop]
  have g6 : (q.drop 50).getD 6 0 = leN 1 (q.drop 56) := by rw [leN1d, List.drop_drop]
  have g7 : (q.drop 50).getD 7 0 = leN 1 (q.drop 57) := by rw [leN1d, List.drop_drop]
  have g8 : (q.drop 50).getD 8 0 = leN 1 (q.drop 58) := by rw [leN1d, List.drop_drop]
  have k67 : ((67 : Nat) : Int) = 67 := rfl
  have k17 : ((17 : Nat) : Int) = 17 := rfl
  have ht0 : List.take (nW b) (List.drop 0 (wdec b (nW b))) = wdec b (nW b) := ht
  simp only [k67, k17, Int.reduceToNat, Nat.reduceSub, Int.reduceLE, Int.reduceLT, Int.le_refl, and_self, decide_true, cond_true, Int.toNat_natCast, t6, t10, t14, t18, t22, t26, t30, t34, t38, t42, t46, t50, t52, t59, r6, r10, r14, r18, r22, r26, r30, r34, r38, r42, r46, r50, r52, r59, Option.bind_some, List.set_cons_zero, List.set_cons_succ, List.getD_cons_zero, List.getD_cons_succ, g4, g5, g6, g7, g8, leN1d q, ht0, leN_w32 hq _ (show 4 ≤ 4 by omega), leN_i64 hq _ (show 4 ≤ 4 by omega), leN_i64 hq _ (show 2 ≤ 4 by omega), i64_byt hq]
  show (F_annealref24_Put (wdec b (nW b), decF q (leN 1 (q.drop 5) == 1))).bind _ = _
  rw [hput]
  by_cases hr : right (wdec b (nW b), decF q (leN 1 (q.drop 5) == 1))
  case neg => rw [if_neg hr, if_neg fun k => hr k.1]; rfl
  rw [if_pos hr]
  simp only [Option.bind_some, bif_ne, if_true, List.take_length]
  rw [b8_id h]
  by_cases he : enc_ (wdec b (nW b), decF q (leN 1 (q.drop 5) == 1)) = b
  · have hbe : byt (enc_ (wdec b (nW b), decF q (leN 1 (q.drop 5) == 1))) := by rw [he]; exact h
    rw [b8_id hbe, if_pos ⟨hr, he⟩]
    have : (enc_ (wdec b (nW b), decF q (leN 1 (q.drop 5) == 1)) == b) = true := by simpa using he
    rw [this]; rfl
  · rw [if_neg fun k => he k.2]
    rw [b8_id (enc_byt hr)]
    have : (enc_ (wdec b (nW b), decF q (leN 1 (q.drop 5) == 1)) == b) = false := by simpa using he
    rw [this]; rfl
end Go.Proofs.Ytcpicekmnkjceaa.VI

namespace Go.Proofs.Ytcpicekmnkjceaa.VI
set_option linter.unusedVariables false
set_option linter.unusedSimpArgs false
set_option linter.unusedSimpArgs false
set_option linter.unusedVariables false
set_option maxRecDepth 100000
set_option maxHeartbeats 4000000
theorem e1 {v : Int} (h : 0 ≤ v ∧ v < 256) : 0 + v * 2 ^ (8 * 0) = v := by simp
theorem e2 {v : Int} (h : 0 ≤ v ∧ v < 65536) : 0 + v / 2 ^ (8 * 0) % 256 * 2 ^ (8 * 0) + v / 2 ^ (8 * 1) % 256 * 2 ^ (8 * 1) = v := by
  simp only [Nat.reduceMul, Int.reducePow]; omega
theorem e4 {v : Int} (h : 0 ≤ v ∧ v < 4294967296) : 0 + v / 2 ^ (8 * 0) % 256 * 2 ^ (8 * 0) + v / 2 ^ (8 * 1) % 256 * 2 ^ (8 * 1) + v / 2 ^ (8 * 2) % 256 * 2 ^ (8 * 2) + v / 2 ^ (8 * 3) % 256 * 2 ^ (8 * 3) = v := by
  simp only [Nat.reduceMul, Int.reducePow]; omega
theorem e8 {v : Int} (h : 0 ≤ v ∧ v < 18446744073709551616) : 0 + v / 2 ^ (8 * 0) % 256 * 2 ^ (8 * 0) + v / 2 ^ (8 * 1) % 256 * 2 ^ (8 * 1) + v / 2 ^ (8 * 2) % 256 * 2 ^ (8 * 2) + v / 2 ^ (8 * 3) % 256 * 2 ^ (8 * 3) + v / 2 ^ (8 * 4) % 256 * 2 ^ (8 * 4) + v / 2 ^ (8 * 5) % 256 * 2 ^ (8 * 5) + v / 2 ^ (8 * 6) % 256 * 2 ^ (8 * 6) + v / 2 ^ (8 * 7) % 256 * 2 ^ (8 * 7) = v := by
  simp only [Nat.reduceMul, Int.reducePow]; omega
theorem wbs_drop (w : List Int) (t : List Int) {i : Nat} : ∀ {n : Nat}, i < n → ∃ r, (wbs w n ++ t).drop (2 * i) = bts 2 (w.getD i 0) ++ r
  | 0, h => by omega
  | n + 1, h => by
    simp only [wbs]
    by_cases e : i = n
    · subst e
      refine ⟨t, ?_⟩
      rw [List.append_assoc, List.drop_append_of_le_length (by rw [wbs_len]; exact Nat.le_refl _), List.drop_of_length_le (by rw [wbs_len]; exact Nat.le_refl _), List.nil_append]
    · obtain ⟨r, hr⟩ := wbs_drop w (bts 2 (w.getD n 0) ++ t) (i := i) (n := n) (by omega)
      exact ⟨r, by rw [List.append_assoc]; exact hr⟩
theorem enc_drop (c : CfgT) {j : Nat} : (enc_ c).drop (9 + j) = (wbs c.w c.w.length ++ tail c).drop j := by
  unfold enc_ head
  rw [← List.drop_drop]; rfl
theorem enc_tail (c : CfgT) : (enc_ c).drop (9 + 2 * c.w.length) = tail c := by
  rw [enc_drop, List.drop_append_of_le_length (by rw [wbs_len]; exact Nat.le_refl _), List.drop_of_length_le (by rw [wbs_len]; exact Nat.le_refl _), List.nil_append]
theorem wdec_enc {c : CfgT} (h : wok c.w) : ∀ n, n ≤ c.w.length → wdec (enc_ c) n = c.w.take n
  | 0, _ => by simp [wdec]
  | n + 1, hn => by
    rw [wdec, wdec_enc h n (by omega), enc_drop]
    obtain ⟨r, hr⟩ := wbs_drop c.w (tail c) (i := n) (n := c.w.length) (by omega)
    rw [hr]
    have hw := h.2.2 n (by omega)
    have : leN 2 (bts 2 (c.w.getD n 0) ++ r) = c.w.getD n 0 := e2 (v := c.w.getD n 0) (by omega)
    rw [this, List.take_add_one]
    have hg : c.w.getD n 0 = c.w[n]'(by omega) := by rw [List.getD_eq_getElem?_getD, List.getElem?_eq_getElem (by omega)]; rfl
    rw [hg, List.getElem?_eq_getElem (by omega)]; rfl
theorem enc_nW (c : CfgT) : nW (enc_ c) = c.w.length := by simp [nW, enc_, head]
theorem enc_flag (c : CfgT) : leN 1 (((enc_ c).drop (9 + 2 * nW (enc_ c))).drop 5) = flagN c.chance := by
  rw [enc_nW, enc_tail]
  exact (show _ = 0 + flagN c.chance * 2 ^ (8 * 0) from rfl).trans (by simp)
def cW (c : CfgT) : Prop := cU c ∧ (0 ≤ c.seed ∧ c.seed < 18446744073709551616) ∧ 0 ≤ c.drop
theorem dec_enc {c : CfgT} (hr : right c) (hc : cW c) : decC (enc_ c) c.chance = c := by
  unfold decC
  rw [enc_nW, enc_tail, wdec_enc hr.1 _ (Nat.le_refl _), List.take_length]
  obtain ⟨w, f, act, loss, opt, sched, rate, mu, beta, eps, decay, clip, warm, total, batch, accum, seed, drop, chance, log, mi, ma, bk, gr, itv, save, _⟩ := c
  obtain ⟨_, _, ⟨k1, k2, k3, k4, k5⟩, _, ⟨q1, q2, q3, q4, q5, q6, q7, q8, q9, q10, q11, q12⟩, _⟩ := hr
  obtain ⟨⟨u1, u2, u3, u4, u5, u6⟩, s1, s2⟩ := hc
  simp only [CfgT.f, CfgT.act, CfgT.loss, CfgT.opt, CfgT.sched, CfgT.rate, CfgT.mu, CfgT.beta, CfgT.eps, CfgT.decay, CfgT.clip, CfgT.warm, CfgT.total, CfgT.batch, CfgT.accum, CfgT.seed, CfgT.drop, CfgT.chance, CfgT.log, CfgT.mi, CfgT.ma, CfgT.bk, CfgT.gr, CfgT.itv, CfgT.save, CfgT.w] at *
  refine Prod.ext rfl ?_
  exact Prod.ext (e1 (v := f) (by omega)) (Prod.ext (e1 (v := act) (by omega)) (Prod.ext (e1 (v := loss) (by omega)) (Prod.ext (e1 (v := opt) (by omega)) (Prod.ext (e1 (v := sched) (by omega)) (Prod.ext (e4 (v := rate) (by omega)) (Prod.ext (e4 (v := mu) (by omega)) (Prod.ext (e4 (v := beta) (by omega)) (Prod.ext (e4 (v := eps) (by omega)) (Prod.ext (e4 (v := decay) (by omega)) (Prod.ext (e4 (v := clip) (by omega)) (Prod.ext (e4 (v := warm) (by omega)) (Prod.ext (e4 (v := total) (by omega)) (Prod.ext (e2 (v := batch) (by omega)) (Prod.ext (e2 (v := accum) (by omega)) (Prod.ext (e8 (v := seed) (by omega)) (Prod.ext (e4 (v := drop) (by omega)) (Prod.ext rfl (Prod.ext (e1 (v := log) (by omega)) (Prod.ext (e1 (v := mi) (by omega)) (Prod.ext (e1 (v := ma) (by omega)) (Prod.ext (e1 (v := bk) (by omega)) (Prod.ext (e1 (v := gr) (by omega)) (Prod.ext (e4 (v := itv) (by omega)) (Prod.ext (e4 (v := save) (by omega)) (rfl)))))))))))))))))))))))))
theorem isE_dec {b : List Int} {c : CfgT} (h : isE b c) (hc : cW c) : decP b = c ∧ decQ b = c := by
  obtain ⟨hr, rfl⟩ := h
  have hd := dec_enc hr hc
  unfold decP decQ
  rw [enc_flag]
  have e1 : (flagN c.chance != 0) = c.chance := by cases c.chance <;> rfl
  have e2 : (flagN c.chance == 1) = c.chance := by cases c.chance <;> rfl
  rw [e1, e2]; exact ⟨hd, hd⟩
theorem decC_W {b : List Int} (h : byt b) (ch : Bool) : cW (decC b ch) := ⟨decC_cU h ch, decC_sd h ch⟩
theorem isE_iff {b : List Int} (h : byt b) : isE b (decP b) ↔ isE b (decQ b) := by
  constructor
  · intro k
    have := (isE_dec k (decC_W h _)).2
    rw [this]; exact k
  · intro k
    have := (isE_dec k (decC_W h _)).1
    rw [this]; exact k
noncomputable def rd (b : List Int) : CfgT × Int × Unit := if isE b (decP b) then (decP b, 0, ()) else (zCfg, 20, ())
theorem cread {b : List Int} (h : byt b) (hL : b.length ≤ 1073741824) : F_config_Read b = some (rd b) := cread_eq h hL
theorem rread {b : List Int} (h : byt b) (hL : b.length ≤ 1073741824) : F_annealref24_Read b = some (rd b) := by
  rw [rread_eq h hL]
  unfold rd
  by_cases k : isE b (decP b)
  · have e := (isE_dec k (decC_W h _)).2
    rw [if_pos k, if_pos ((isE_iff h).1 k), e]
  · rw [if_neg k, if_neg fun j => k ((isE_iff h).2 j)]
theorem rd_enc {c : CfgT} (hr : right c) (hc : cW c) : rd (enc_ c) = (c, 0, ()) := by
  unfold rd
  have := (isE_dec ⟨hr, rfl⟩ hc).1
  rw [this, if_pos ⟨hr, rfl⟩]
end Go.Proofs.Ytcpicekmnkjceaa.VI

namespace Go.Proofs.Ytcpicekmnkjceaa.VI
set_option linter.unusedVariables false
set_option linter.unusedSimpArgs false
set_option maxRecDepth 100000
set_option linter.unusedSimpArgs false
set_option linter.unusedVariables false
noncomputable def O_annealhelp_Ints : Orc := orn
theorem okO_annealhelp_Ints : OrcOk PR O_annealhelp_Ints := (orn_ok _)
abbrev fa_annealhelp_Ints : Fm := (.pair (.si .i64) (.pair (.si .i64) .unit))
abbrev ha_annealhelp_Ints : List BF := []
abbrev fr_annealhelp_Ints : Fm := .b
abbrev hr_annealhelp_Ints : List BF := []
abbrev ff_annealhelp_Ints_0 : Fm := (.pair (.si .i64) (.pair (.si .i64) (.us 3 (.pair (.i .i64) (.us 20 .unit)))))
abbrev hf_annealhelp_Ints_0 : List BF := []
abbrev X_annealhelp_Ints_0 : Xs := (.alt (.exit 0) [] (.us 26 .unit) [] (.one .ret [4] (.us 4 (.pair .b (.us 21 .unit))) []))
abbrev S_annealhelp_Ints_0 : Type := T ff_annealhelp_Ints_0 × TH hf_annealhelp_Ints_0
abbrev E_annealhelp_Ints_0 : Type := TX X_annealhelp_Ints_0
noncomputable def LB_annealhelp_Ints_0 : Lps := L0
noncomputable def st_annealhelp_Ints_0 : StepT S_annealhelp_Ints_0 E_annealhelp_Ints_0 := fun R v kn ko =>
  let x0 : List Int := v.1.1
  let x1 : Int := v.1.2.2.1
  let x2 : Nat := (Int.toNat x1)
  let x3 : List Int := v.1.2.1
  bif (decide (x1 < (((List.length x0) : Nat) : Int))) then
    bif (decide (((0:Int) ≤ x1) ∧ (x1 < (((List.length x0) : Nat) : Int)))) then
      bif (decide (((0:Int) ≤ x1) ∧ (x1 < (((List.length x3) : Nat) : Int)))) then
        bif ((List.getD x0 x2 (0:Int)) != (List.getD x3 x2 (0:Int))) then
          (ko (Sum.inr ((false, ()), ())))
        else
          (kn (((List.take (List.length x0) x0), ((List.take (List.length x3) x3), ((IntKind.wrap .i64 (x1 + (1:Int))), ()))), ()))
      else
        none
    else
      none
  else
    (ko (Sum.inl ((), ())))
noncomputable def ls_annealhelp_Ints_0 : St → LTr := (lsum ff_annealhelp_Ints_0 hf_annealhelp_Ints_0 X_annealhelp_Ints_0 Prod.mk id st_annealhelp_Ints_0 (hd [] [] [0, 1, 5] 0))
theorem lp_annealhelp_Ints_0 : LoopOk PR 0 (lpN f_annealhelp_Ints 0) ls_annealhelp_Ints_0 := loopT okO_annealhelp_Ints mixed (L := LB_annealhelp_Ints_0) (d := 1) (bs := []) (ks := [0, 1, 5]) (loopsL (l := []) (by kernel_rfl) trivial) (by kernel_rfl) (inS := Prod.mk) (outS := id) (fun _ _ => rfl) (inX := id) (outX := id) (fun _ => rfl) (fun v R kn ko => by kernel_rfl) (hd_wk [] [] [0, 1, 5] 0)
noncomputable def L_annealhelp_Ints : Lps := (lpB 5 (.by_ ls_annealhelp_Ints_0) L0)
def inn_annealhelp_Ints : T fr_annealhelp_Ints → TH hr_annealhelp_Ints → Bool := (fun z w => z)
def out_annealhelp_Ints : Bool → T fr_annealhelp_Ints × TH hr_annealhelp_Ints := fun r => (r, ())
noncomputable def F_annealhelp_Ints (a0 : List Int) (a1 : List Int) : Option (Bool) :=
  bif ((((List.length a0) : Nat) : Int) != (((List.length a1) : Nat) : Int)) then
    (some false)
  else
    ((lim st_annealhelp_Ints_0 (((List.take (List.length a0) a0), ((List.take (List.length a1) a1), ((0:Int), ()))), ()))).bind fun r0 =>
    els (fun l1 =>
      (some true)) (fun r2 =>
      (some r2.1.1)) r0
noncomputable def G_annealhelp_Ints : T fa_annealhelp_Ints → TH ha_annealhelp_Ints → Option (Bool) := fun x y => F_annealhelp_Ints x.1 x.2.1
noncomputable def c_annealhelp_Ints : Orc := ent i_annealhelp_Ints [] 0 (sp fa_annealhelp_Ints ha_annealhelp_Ints fr_annealhelp_Ints hr_annealhelp_Ints G_annealhelp_Ints out_annealhelp_Ints)
theorem ok_annealhelp_Ints : OrcOk PR c_annealhelp_Ints := fnT okO_annealhelp_Ints mixed p_annealhelp_Ints (by kernel_rfl) (by kernel_rfl) (L := L_annealhelp_Ints) (kp := false) (by kernel_rfl) (inn := inn_annealhelp_Ints) (out := out_annealhelp_Ints) (fun _ _ => rfl) (loopsL (l := [((lpN f_annealhelp_Ints 0), ls_annealhelp_Ints_0)]) (by kernel_rfl) ⟨lp_annealhelp_Ints_0, trivial⟩) (fun x y => by kernel_rfl)
noncomputable def O_annealhelp_Config : Orc := c_annealhelp_Ints
theorem okO_annealhelp_Config : OrcOk PR O_annealhelp_Config := ok_annealhelp_Ints
abbrev fa_annealhelp_Config : Fm := (.pair (.agg (.pair (.si .i64) (.pair (.i .i64) (.pair (.i .i64) (.pair (.i .i64) (.pair (.i .i64) (.pair (.i .i64) (.pair (.i .u32) (.pair (.i .u32) (.pair (.i .u32) (.pair (.i .u32) (.pair (.i .u32) (.pair (.i .u32) (.pair (.i .i64) (.pair (.i .i64) (.pair (.i .i64) (.pair (.i .i64) (.pair (.i .u64) (.pair (.i .u32) (.pair .b (.pair (.i .i64) (.pair (.i .i64) (.pair (.i .i64) (.pair (.i .i64) (.pair (.i .i64) (.pair (.i .i64) (.pair (.i .i64) .unit))))))))))))))))))))))))))) (.pair (.agg (.pair (.si .i64) (.pair (.i .i64) (.pair (.i .i64) (.pair (.i .i64) (.pair (.i .i64) (.pair (.i .i64) (.pair (.i .u32) (.pair (.i .u32) (.pair (.i .u32) (.pair (.i .u32) (.pair (.i .u32) (.pair (.i .u32) (.pair (.i .i64) (.pair (.i .i64) (.pair (.i .i64) (.pair (.i .i64) (.pair (.i .u64) (.pair (.i .u32) (.pair .b (.pair (.i .i64) (.pair (.i .i64) (.pair (.i .i64) (.pair (.i .i64) (.pair (.i .i64) (.pair (.i .i64) (.pair (.i .i64) .unit))))))))))))))))))))))))))) .unit))
abbrev ha_annealhelp_Config : List BF := []
abbrev fr_annealhelp_Config : Fm := .b
abbrev hr_annealhelp_Config : List BF := []
noncomputable def L_annealhelp_Config : Lps := L0
def inn_annealhelp_Config : T fr_annealhelp_Config → TH hr_annealhelp_Config → Bool := (fun z w => z)
def out_annealhelp_Config : Bool → T fr_annealhelp_Config × TH hr_annealhelp_Config := fun r => (r, ())
noncomputable def F_annealhelp_Config (a0 : List Int × Int × Int × Int × Int × Int × Int × Int × Int × Int × Int × Int × Int × Int × Int × Int × Int × Int × Bool × Int × Int × Int × Int × Int × Int × Int × Unit) (a1 : List Int × Int × Int × Int × Int × Int × Int × Int × Int × Int × Int × Int × Int × Int × Int × Int × Int × Int × Bool × Int × Int × Int × Int × Int × Int × Int × Unit) : Option (Bool) :=
  let x0 : Int := a0.2.2.1
  let x1 : Int := a1.2.2.1
  let x2 : Int := a0.2.2.2.1
  let x3 : Int := a1.2.2.2.1
  let x4 : Int := a0.2.2.2.2.1
  let x5 : Int := a1.2.2.2.2.1
  let x6 : Int := a0.2.2.2.2.2.1
  let x7 : Int := a1.2.2.2.2.2.1
  let x8 : Int := a0.2.2.2.2.2.2.1
  let x9 : Int := a1.2.2.2.2.2.2.1
  let x10 : Int := a0.2.2.2.2.2.2.2.1
  let x11 : Int := a1.2.2.2.2.2.2.2.1
  let x12 : Int := a0.2.2.2.2.2.2.2.2.1
  let x13 : Int := a1.2.2.2.2.2.2.2.2.1
  let x14 : Int := a0.2.2.2.2.2.2.2.2.2.1
  let x15 : Int := a1.2.2.2.2.2.2.2.2.2.1
  let x16 : Int := a0.2.2.2.2.2.2.2.2.2.2.1
  let x17 : Int := a1.2.2.2.2.2.2.2.2.2.2.1
  let x18 : Int := a0.2.2.2.2.2.2.2.2.2.2.2.1
  let x19 : Int := a1.2.2.2.2.2.2.2.2.2.2.2.1
  let x20 : Int := a0.2.2.2.2.2.2.2.2.2.2.2.2.1
  let x21 : Int := a1.2.2.2.2.2.2.2.2.2.2.2.2.1
  let x22 : Int := a0.2.2.2.2.2.2.2.2.2.2.2.2.2.1
  let x23 : Int := a1.2.2.2.2.2.2.2.2.2.2.2.2.2.1
  let x24 : Int := a0.2.2.2.2.2.2.2.2.2.2.2.2.2.2.1
  let x25 : Int := a1.2.2.2.2.2.2.2.2.2.2.2.2.2.2.1
  let x26 : Int := a0.2.2.2.2.2.2.2.2.2.2.2.2.2.2.2.1
  let x27 : Int := a1.2.2.2.2.2.2.2.2.2.2.2.2.2.2.2.1
  let x28 : Int := a0.2.2.2.2.2.2.2.2.2.2.2.2.2.2.2.2.1
  let x29 : Int := a1.2.2.2.2.2.2.2.2.2.2.2.2.2.2.2.2.1
  let x30 : Int := a0.2.2.2.2.2.2.2.2.2.2.2.2.2.2.2.2.2.1
  let x31 : Int := a1.2.2.2.2.2.2.2.2.2.2.2.2.2.2.2.2.2.1
  let x32 : Bool := a0.2.2.2.2.2.2.2.2.2.2.2.2.2.2.2.2.2.2.1
  let x33 : Bool := a1.2.2.2.2.2.2.2.2.2.2.2.2.2.2.2.2.2.2.1
  let x34 : Int := a0.2.2.2.2.2.2.2.2.2.2.2.2.2.2.2.2.2.2.2.1
  let x35 : Int := a1.2.2.2.2.2.2.2.2.2.2.2.2.2.2.2.2.2.2.2.1
  let x36 : Int := a0.2.2.2.2.2.2.2.2.2.2.2.2.2.2.2.2.2.2.2.2.1
  let x37 : Int := a1.2.2.2.2.2.2.2.2.2.2.2.2.2.2.2.2.2.2.2.2.1
  let x38 : Int := a0.2.2.2.2.2.2.2.2.2.2.2.2.2.2.2.2.2.2.2.2.2.1
  let x39 : Int := a1.2.2.2.2.2.2.2.2.2.2.2.2.2.2.2.2.2.2.2.2.2.1
  let x40 : Int := a0.2.2.2.2.2.2.2.2.2.2.2.2.2.2.2.2.2.2.2.2.2.2.1
  let x41 : Int := a1.2.2.2.2.2.2.2.2.2.2.2.2.2.2.2.2.2.2.2.2.2.2.1
  let x42 : Int := a0.2.2.2.2.2.2.2.2.2.2.2.2.2.2.2.2.2.2.2.2.2.2.2.1
  let x43 : Int := a1.2.2.2.2.2.2.2.2.2.2.2.2.2.2.2.2.2.2.2.2.2.2.2.1
  let x44 : Int := a0.2.2.2.2.2.2.2.2.2.2.2.2.2.2.2.2.2.2.2.2.2.2.2.2.1
  let x45 : Int := a1.2.2.2.2.2.2.2.2.2.2.2.2.2.2.2.2.2.2.2.2.2.2.2.2.1
  let x46 : Int := a0.2.2.2.2.2.2.2.2.2.2.2.2.2.2.2.2.2.2.2.2.2.2.2.2.2.1
  let x47 : Int := a1.2.2.2.2.2.2.2.2.2.2.2.2.2.2.2.2.2.2.2.2.2.2.2.2.2.1
  ((F_annealhelp_Ints (List.take (List.length a0.1) a0.1) (List.take (List.length a1.1) a1.1))).bind fun r48 =>
  bif r48 then
    bif (a0.2.1 == a1.2.1) then
      bif (x0 == x1) then
        bif (x2 == x3) then
          bif (x4 == x5) then
            bif (x6 == x7) then
              bif (x8 == x9) then
                bif (x10 == x11) then
                  bif (x12 == x13) then
                    bif (x14 == x15) then
                      bif (x16 == x17) then
                        bif (x18 == x19) then
                          bif (x20 == x21) then
                            bif (x22 == x23) then
                              bif (x24 == x25) then
                                bif (x26 == x27) then
                                  bif (x28 == x29) then
                                    bif (x30 == x31) then
                                      bif (x32 == x33) then
                                        bif (x34 == x35) then
                                          bif (x36 == x37) then
                                            bif (x38 == x39) then
                                              bif (x40 == x41) then
                                                bif (x42 == x43) then
                                                  bif (x44 == x45) then
                                                    (some (x46 == x47))
                                                  else
                                                    (some false)
                                                else
                                                  (some false)
                                              else
                                                (some false)
                                            else
                                              (some false)
                                          else
                                            (some false)
                                        else
                                          (some false)
                                      else
                                        (some false)
                                    else
                                      (some false)
                                  else
                                    (some false)
                                else
                                  (some false)
                              else
                                (some false)
                            else
                              (some false)
                          else
                            (some false)
                        else
                          (some false)
                      else
                        (some false)
                    else
                      (some false)
                  else
                    (some false)
                else
                  (some false)
              else
                (some false)
            else
              (some false)
          else
            (some false)
        else
          (some false)
      else
        (some false)
    else
      (some false)
  else
    (some false)
noncomputable def G_annealhelp_Config : T fa_annealhelp_Config → TH ha_annealhelp_Config → Option (Bool) := fun x y => F_annealhelp_Config x.1 x.2.1
noncomputable def c_annealhelp_Config : Orc := ent i_annealhelp_Config [] 0 (sp fa_annealhelp_Config ha_annealhelp_Config fr_annealhelp_Config hr_annealhelp_Config G_annealhelp_Config out_annealhelp_Config)
theorem ok_annealhelp_Config : OrcOk PR c_annealhelp_Config := fnT okO_annealhelp_Config mixed p_annealhelp_Config (by kernel_rfl) (by kernel_rfl) (L := L_annealhelp_Config) (kp := false) (by kernel_rfl) (inn := inn_annealhelp_Config) (out := out_annealhelp_Config) (fun _ _ => rfl) (loopsL (l := []) (by kernel_rfl) trivial) (fun x y => by kernel_rfl)
noncomputable def O_slices_EqualLLJint_intJ : Orc := orn
theorem okO_slices_EqualLLJint_intJ : OrcOk PR O_slices_EqualLLJint_intJ := (orn_ok _)
abbrev fa_slices_EqualLLJint_intJ : Fm := (.pair (.si .i64) (.pair (.si .i64) .unit))
abbrev ha_slices_EqualLLJint_intJ : List BF := []
abbrev fr_slices_EqualLLJint_intJ : Fm := .b
abbrev hr_slices_EqualLLJint_intJ : List BF := []
abbrev ff_slices_EqualLLJint_intJ_0 : Fm := (.pair (.si .i64) (.pair (.si .i64) (.us 10 (.pair (.i .i64) (.pair (.i .i64) (.us 12 .unit))))))
abbrev hf_slices_EqualLLJint_intJ_0 : List BF := []
abbrev X_slices_EqualLLJint_intJ_0 : Xs := (.alt (.exit 0) [] (.us 26 .unit) [] (.one .ret [4] (.us 4 (.pair .b (.us 21 .unit))) []))
abbrev S_slices_EqualLLJint_intJ_0 : Type := T ff_slices_EqualLLJint_intJ_0 × TH hf_slices_EqualLLJint_intJ_0
abbrev E_slices_EqualLLJint_intJ_0 : Type := TX X_slices_EqualLLJint_intJ_0
noncomputable def LB_slices_EqualLLJint_intJ_0 : Lps := L0
noncomputable def st_slices_EqualLLJint_intJ_0 : StepT S_slices_EqualLLJint_intJ_0 E_slices_EqualLLJint_intJ_0 := fun R v kn ko =>
  let x0 : List Int := v.1.1
  let x1 : Int := v.1.2.2.2.1
  let x2 : Nat := (Int.toNat x1)
  let x3 : List Int := v.1.2.1
  bif (decide (x1 < v.1.2.2.1)) then
    bif (decide (((0:Int) ≤ x1) ∧ (x1 < (((List.length x0) : Nat) : Int)))) then
      bif (decide (((0:Int) ≤ x1) ∧ (x1 < (((List.length x3) : Nat) : Int)))) then
        bif ((List.getD x0 x2 (0:Int)) != (List.getD x3 x2 (0:Int))) then
          (ko (Sum.inr ((false, ()), ())))
        else
          (kn (((List.take (List.length x0) x0), ((List.take (List.length x3) x3), (v.1.2.2.1, ((IntKind.wrap .i64 (x1 + (1:Int))), ())))), ()))
      else
        none
    else
      none
  else
    (ko (Sum.inl ((), ())))
noncomputable def ls_slices_EqualLLJint_intJ_0 : St → LTr := (lsum ff_slices_EqualLLJint_intJ_0 hf_slices_EqualLLJint_intJ_0 X_slices_EqualLLJint_intJ_0 Prod.mk id st_slices_EqualLLJint_intJ_0 (hd [] [] [0, 1, 12, 13] 0))
theorem lp_slices_EqualLLJint_intJ_0 : LoopOk PR 0 (lpN f_slices_EqualLLJint_intJ 0) ls_slices_EqualLLJint_intJ_0 := loopT okO_slices_EqualLLJint_intJ mixed (L := LB_slices_EqualLLJint_intJ_0) (d := 1) (bs := []) (ks := [0, 1, 12, 13]) (loopsL (l := []) (by kernel_rfl) trivial) (by kernel_rfl) (inS := Prod.mk) (outS := id) (fun _ _ => rfl) (inX := id) (outX := id) (fun _ => rfl) (fun v R kn ko => by kernel_rfl) (hd_wk [] [] [0, 1, 12, 13] 0)
noncomputable def L_slices_EqualLLJint_intJ : Lps := (lpB 5 (.by_ ls_slices_EqualLLJint_intJ_0) L0)
def inn_slices_EqualLLJint_intJ : T fr_slices_EqualLLJint_intJ → TH hr_slices_EqualLLJint_intJ → Bool := (fun z w => z)
def out_slices_EqualLLJint_intJ : Bool → T fr_slices_EqualLLJint_intJ × TH hr_slices_EqualLLJint_intJ := fun r => (r, ())
noncomputable def F_slices_EqualLLJint_intJ (a0 : List Int) (a1 : List Int) : Option (Bool) :=
  bif ((((List.length a0) : Nat) : Int) != (((List.length a1) : Nat) : Int)) then
    (some false)
  else
    ((lim st_slices_EqualLLJint_intJ_0 (((List.take (List.length a0) a0), ((List.take (List.length a1) a1), ((((List.length a0) : Nat) : Int), ((0:Int), ())))), ()))).bind fun r0 =>
    els (fun l1 =>
      (some true)) (fun r2 =>
      (some r2.1.1)) r0
noncomputable def G_slices_EqualLLJint_intJ : T fa_slices_EqualLLJint_intJ → TH ha_slices_EqualLLJint_intJ → Option (Bool) := fun x y => F_slices_EqualLLJint_intJ x.1 x.2.1
noncomputable def c_slices_EqualLLJint_intJ : Orc := ent i_slices_EqualLLJint_intJ [] 0 (sp fa_slices_EqualLLJint_intJ ha_slices_EqualLLJint_intJ fr_slices_EqualLLJint_intJ hr_slices_EqualLLJint_intJ G_slices_EqualLLJint_intJ out_slices_EqualLLJint_intJ)
theorem ok_slices_EqualLLJint_intJ : OrcOk PR c_slices_EqualLLJint_intJ := fnT okO_slices_EqualLLJint_intJ mixed p_slices_EqualLLJint_intJ (by kernel_rfl) (by kernel_rfl) (L := L_slices_EqualLLJint_intJ) (kp := false) (by kernel_rfl) (inn := inn_slices_EqualLLJint_intJ) (out := out_slices_EqualLLJint_intJ) (fun _ _ => rfl) (loopsL (l := [((lpN f_slices_EqualLLJint_intJ 0), ls_slices_EqualLLJint_intJ_0)]) (by kernel_rfl) ⟨lp_slices_EqualLLJint_intJ_0, trivial⟩) (fun x y => by kernel_rfl)
noncomputable def O_config_bare : Orc := orn
theorem okO_config_bare : OrcOk PR O_config_bare := (orn_ok _)
abbrev fa_config_bare : Fm := (.pair (.agg (.pair (.si .i64) (.pair (.i .i64) (.pair (.i .i64) (.pair (.i .i64) (.pair (.i .i64) (.pair (.i .i64) (.pair (.i .u32) (.pair (.i .u32) (.pair (.i .u32) (.pair (.i .u32) (.pair (.i .u32) (.pair (.i .u32) (.pair (.i .i64) (.pair (.i .i64) (.pair (.i .i64) (.pair (.i .i64) (.pair (.i .u64) (.pair (.i .u32) (.pair .b (.pair (.i .i64) (.pair (.i .i64) (.pair (.i .i64) (.pair (.i .i64) (.pair (.i .i64) (.pair (.i .i64) (.pair (.i .i64) .unit))))))))))))))))))))))))))) .unit)
abbrev ha_config_bare : List BF := []
abbrev fr_config_bare : Fm := (.agg (.pair (.rep 5 (.i .i64)) (.pair (.rep 7 (.i .u32)) (.pair (.rep 4 (.i .i64)) (.pair (.rep 7 (.i .i64)) (.pair (.i .u64) (.pair .b .unit)))))))
abbrev hr_config_bare : List BF := []
noncomputable def L_config_bare : Lps := L0
def inn_config_bare : T fr_config_bare → TH hr_config_bare → List (Int) × List (Int) × List (Int) × List (Int) × Int × Bool × Unit := (fun z w => z)
def out_config_bare : List (Int) × List (Int) × List (Int) × List (Int) × Int × Bool × Unit → T fr_config_bare × TH hr_config_bare := fun r => (r, ())
noncomputable def F_config_bare (a0 : List Int × Int × Int × Int × Int × Int × Int × Int × Int × Int × Int × Int × Int × Int × Int × Int × Int × Int × Bool × Int × Int × Int × Int × Int × Int × Int × Unit) : Option (List (Int) × List (Int) × List (Int) × List (Int) × Int × Bool × Unit) :=
  let x0 : Int := a0.2.2.1
  let x1 : Int := a0.2.2.2.1
  let x2 : Int := a0.2.2.2.2.1
  let x3 : Int := a0.2.2.2.2.2.1
  let x4 : Int := a0.2.2.2.2.2.2.1
  let x5 : Int := a0.2.2.2.2.2.2.2.1
  let x6 : Int := a0.2.2.2.2.2.2.2.2.1
  let x7 : Int := a0.2.2.2.2.2.2.2.2.2.1
  let x8 : Int := a0.2.2.2.2.2.2.2.2.2.2.1
  let x9 : Int := a0.2.2.2.2.2.2.2.2.2.2.2.1
  let x10 : Int := a0.2.2.2.2.2.2.2.2.2.2.2.2.2.2.2.2.2.1
  let x11 : Int := a0.2.2.2.2.2.2.2.2.2.2.2.2.1
  let x12 : Int := a0.2.2.2.2.2.2.2.2.2.2.2.2.2.1
  let x13 : Int := a0.2.2.2.2.2.2.2.2.2.2.2.2.2.2.1
  let x14 : Int := a0.2.2.2.2.2.2.2.2.2.2.2.2.2.2.2.1
  let x15 : Int := a0.2.2.2.2.2.2.2.2.2.2.2.2.2.2.2.2.2.2.2.1
  let x16 : Int := a0.2.2.2.2.2.2.2.2.2.2.2.2.2.2.2.2.2.2.2.2.1
  let x17 : Int := a0.2.2.2.2.2.2.2.2.2.2.2.2.2.2.2.2.2.2.2.2.2.1
  let x18 : Int := a0.2.2.2.2.2.2.2.2.2.2.2.2.2.2.2.2.2.2.2.2.2.2.1
  let x19 : Int := a0.2.2.2.2.2.2.2.2.2.2.2.2.2.2.2.2.2.2.2.2.2.2.2.1
  let x20 : Int := a0.2.2.2.2.2.2.2.2.2.2.2.2.2.2.2.2.2.2.2.2.2.2.2.2.1
  let x21 : Int := a0.2.2.2.2.2.2.2.2.2.2.2.2.2.2.2.2.2.2.2.2.2.2.2.2.2.1
  let x22 : Int := a0.2.2.2.2.2.2.2.2.2.2.2.2.2.2.2.2.1
  let x23 : Bool := a0.2.2.2.2.2.2.2.2.2.2.2.2.2.2.2.2.2.2.1
  (some ([a0.2.1, x0, x1, x2, x3], ([x4, x5, x6, x7, x8, x9, x10], ([x11, x12, x13, x14], ([x15, x16, x17, x18, x19, x20, x21], (x22, (x23, ())))))))
noncomputable def G_config_bare : T fa_config_bare → TH ha_config_bare → Option (List (Int) × List (Int) × List (Int) × List (Int) × Int × Bool × Unit) := fun x y => F_config_bare x.1
noncomputable def c_config_bare : Orc := ent i_config_bare [] 0 (sp fa_config_bare ha_config_bare fr_config_bare hr_config_bare G_config_bare out_config_bare)
theorem ok_config_bare : OrcOk PR c_config_bare := fnT okO_config_bare mixed p_config_bare (by kernel_rfl) (by kernel_rfl) (L := L_config_bare) (kp := false) (by kernel_rfl) (inn := inn_config_bare) (out := out_config_bare) (fun _ _ => rfl) (loopsL (l := []) (by kernel_rfl) trivial) (fun x y => by kernel_rfl)
noncomputable def O_config_Same : Orc := (orm c_slices_EqualLLJint_intJ c_config_bare)
theorem okO_config_Same : OrcOk PR O_config_Same := (orm_ok ok_slices_EqualLLJint_intJ ok_config_bare)
abbrev fa_config_Same : Fm := (.pair (.agg (.pair (.si .i64) (.pair (.i .i64) (.pair (.i .i64) (.pair (.i .i64) (.pair (.i .i64) (.pair (.i .i64) (.pair (.i .u32) (.pair (.i .u32) (.pair (.i .u32) (.pair (.i .u32) (.pair (.i .u32) (.pair (.i .u32) (.pair (.i .i64) (.pair (.i .i64) (.pair (.i .i64) (.pair (.i .i64) (.pair (.i .u64) (.pair (.i .u32) (.pair .b (.pair (.i .i64) (.pair (.i .i64) (.pair (.i .i64) (.pair (.i .i64) (.pair (.i .i64) (.pair (.i .i64) (.pair (.i .i64) .unit))))))))))))))))))))))))))) (.pair (.agg (.pair (.si .i64) (.pair (.i .i64) (.pair (.i .i64) (.pair (.i .i64) (.pair (.i .i64) (.pair (.i .i64) (.pair (.i .u32) (.pair (.i .u32) (.pair (.i .u32) (.pair (.i .u32) (.pair (.i .u32) (.pair (.i .u32) (.pair (.i .i64) (.pair (.i .i64) (.pair (.i .i64) (.pair (.i .i64) (.pair (.i .u64) (.pair (.i .u32) (.pair .b (.pair (.i .i64) (.pair (.i .i64) (.pair (.i .i64) (.pair (.i .i64) (.pair (.i .i64) (.pair (.i .i64) (.pair (.i .i64) .unit))))))))))))))))))))))))))) .unit))
abbrev ha_config_Same : List BF := []
abbrev fr_config_Same : Fm := .b
abbrev hr_config_Same : List BF := []
noncomputable def L_config_Same : Lps := L0
def inn_config_Same : T fr_config_Same → TH hr_config_Same → Bool := (fun z w => z)
def out_config_Same : Bool → T fr_config_Same × TH hr_config_Same := fun r => (r, ())
noncomputable def F_config_Same (a0 : List Int × Int × Int × Int × Int × Int × Int × Int × Int × Int × Int × Int × Int × Int × Int × Int × Int × Int × Bool × Int × Int × Int × Int × Int × Int × Int × Unit) (a1 : List Int × Int × Int × Int × Int × Int × Int × Int × Int × Int × Int × Int × Int × Int × Int × Int × Int × Int × Bool × Int × Int × Int × Int × Int × Int × Int × Unit) : Option (Bool) :=
  let x0 : Int := a0.2.2.1
  let x1 : Int := a0.2.2.2.1
  let x2 : Int := a0.2.2.2.2.1
  let x3 : Int := a0.2.2.2.2.2.1
  let x4 : List Int := [a0.2.1, x0, x1, x2, x3]
  let x5 : Int := a1.2.2.1
  let x6 : Int := a1.2.2.2.1
  let x7 : Int := a1.2.2.2.2.1
  let x8 : Int := a1.2.2.2.2.2.1
  let x9 : List Int := [a1.2.1, x5, x6, x7, x8]
  let x10 : Int := a0.2.2.2.2.2.2.1
  let x11 : Int := a0.2.2.2.2.2.2.2.1
  let x12 : Int := a0.2.2.2.2.2.2.2.2.1
  let x13 : Int := a0.2.2.2.2.2.2.2.2.2.1
  let x14 : Int := a0.2.2.2.2.2.2.2.2.2.2.1
  let x15 : Int := a0.2.2.2.2.2.2.2.2.2.2.2.1
  let x16 : Int := a0.2.2.2.2.2.2.2.2.2.2.2.2.2.2.2.2.2.1
  let x17 : List Int := [x10, x11, x12, x13, x14, x15, x16]
  let x18 : Int := a1.2.2.2.2.2.2.1
  let x19 : Int := a1.2.2.2.2.2.2.2.1
  let x20 : Int := a1.2.2.2.2.2.2.2.2.1
  let x21 : Int := a1.2.2.2.2.2.2.2.2.2.1
  let x22 : Int := a1.2.2.2.2.2.2.2.2.2.2.1
  let x23 : Int := a1.2.2.2.2.2.2.2.2.2.2.2.1
  let x24 : Int := a1.2.2.2.2.2.2.2.2.2.2.2.2.2.2.2.2.2.1
  let x25 : List Int := [x18, x19, x20, x21, x22, x23, x24]
  let x26 : Int := a0.2.2.2.2.2.2.2.2.2.2.2.2.1
  let x27 : Int := a0.2.2.2.2.2.2.2.2.2.2.2.2.2.1
  let x28 : Int := a0.2.2.2.2.2.2.2.2.2.2.2.2.2.2.1
  let x29 : Int := a0.2.2.2.2.2.2.2.2.2.2.2.2.2.2.2.1
  let x30 : List Int := [x26, x27, x28, x29]
  let x31 : Int := a1.2.2.2.2.2.2.2.2.2.2.2.2.1
  let x32 : Int := a1.2.2.2.2.2.2.2.2.2.2.2.2.2.1
  let x33 : Int := a1.2.2.2.2.2.2.2.2.2.2.2.2.2.2.1
  let x34 : Int := a1.2.2.2.2.2.2.2.2.2.2.2.2.2.2.2.1
  let x35 : List Int := [x31, x32, x33, x34]
  let x36 : Int := a0.2.2.2.2.2.2.2.2.2.2.2.2.2.2.2.2.2.2.2.1
  let x37 : Int := a0.2.2.2.2.2.2.2.2.2.2.2.2.2.2.2.2.2.2.2.2.1
  let x38 : Int := a0.2.2.2.2.2.2.2.2.2.2.2.2.2.2.2.2.2.2.2.2.2.1
  let x39 : Int := a0.2.2.2.2.2.2.2.2.2.2.2.2.2.2.2.2.2.2.2.2.2.2.1
  let x40 : Int := a0.2.2.2.2.2.2.2.2.2.2.2.2.2.2.2.2.2.2.2.2.2.2.2.1
  let x41 : Int := a0.2.2.2.2.2.2.2.2.2.2.2.2.2.2.2.2.2.2.2.2.2.2.2.2.1
  let x42 : Int := a0.2.2.2.2.2.2.2.2.2.2.2.2.2.2.2.2.2.2.2.2.2.2.2.2.2.1
  let x43 : List Int := [x36, x37, x38, x39, x40, x41, x42]
  let x44 : Int := a1.2.2.2.2.2.2.2.2.2.2.2.2.2.2.2.2.2.2.2.1
  let x45 : Int := a1.2.2.2.2.2.2.2.2.2.2.2.2.2.2.2.2.2.2.2.2.1
  let x46 : Int := a1.2.2.2.2.2.2.2.2.2.2.2.2.2.2.2.2.2.2.2.2.2.1
  let x47 : Int := a1.2.2.2.2.2.2.2.2.2.2.2.2.2.2.2.2.2.2.2.2.2.2.1
  let x48 : Int := a1.2.2.2.2.2.2.2.2.2.2.2.2.2.2.2.2.2.2.2.2.2.2.2.1
  let x49 : Int := a1.2.2.2.2.2.2.2.2.2.2.2.2.2.2.2.2.2.2.2.2.2.2.2.2.1
  let x50 : Int := a1.2.2.2.2.2.2.2.2.2.2.2.2.2.2.2.2.2.2.2.2.2.2.2.2.2.1
  let x51 : List Int := [x44, x45, x46, x47, x48, x49, x50]
  let x52 : Int := a0.2.2.2.2.2.2.2.2.2.2.2.2.2.2.2.2.1
  let x53 : Int := a1.2.2.2.2.2.2.2.2.2.2.2.2.2.2.2.2.1
  let x54 : Bool := a0.2.2.2.2.2.2.2.2.2.2.2.2.2.2.2.2.2.2.1
  let x55 : Bool := a1.2.2.2.2.2.2.2.2.2.2.2.2.2.2.2.2.2.2.1
  ((F_slices_EqualLLJint_intJ (List.take (List.length a0.1) a0.1) (List.take (List.length a1.1) a1.1))).bind fun r56 =>
  bif r56 then
    (some ((((List.getD x4 (0:Nat) (0:Int)) == (List.getD x9 (0:Nat) (0:Int))) && (((List.getD x4 (1:Nat) (0:Int)) == (List.getD x9 (1:Nat) (0:Int))) && (((List.getD x4 (2:Nat) (0:Int)) == (List.getD x9 (2:Nat) (0:Int))) && (((List.getD x4 (3:Nat) (0:Int)) == (List.getD x9 (3:Nat) (0:Int))) && (((List.getD x4 (4:Nat) (0:Int)) == (List.getD x9 (4:Nat) (0:Int))) && true))))) && ((((List.getD x17 (0:Nat) (0:Int)) == (List.getD x25 (0:Nat) (0:Int))) && (((List.getD x17 (1:Nat) (0:Int)) == (List.getD x25 (1:Nat) (0:Int))) && (((List.getD x17 (2:Nat) (0:Int)) == (List.getD x25 (2:Nat) (0:Int))) && (((List.getD x17 (3:Nat) (0:Int)) == (List.getD x25 (3:Nat) (0:Int))) && (((List.getD x17 (4:Nat) (0:Int)) == (List.getD x25 (4:Nat) (0:Int))) && (((List.getD x17 (5:Nat) (0:Int)) == (List.getD x25 (5:Nat) (0:Int))) && (((List.getD x17 (6:Nat) (0:Int)) == (List.getD x25 (6:Nat) (0:Int))) && true))))))) && ((((List.getD x30 (0:Nat) (0:Int)) == (List.getD x35 (0:Nat) (0:Int))) && (((List.getD x30 (1:Nat) (0:Int)) == (List.getD x35 (1:Nat) (0:Int))) && (((List.getD x30 (2:Nat) (0:Int)) == (List.getD x35 (2:Nat) (0:Int))) && (((List.getD x30 (3:Nat) (0:Int)) == (List.getD x35 (3:Nat) (0:Int))) && true)))) && ((((List.getD x43 (0:Nat) (0:Int)) == (List.getD x51 (0:Nat) (0:Int))) && (((List.getD x43 (1:Nat) (0:Int)) == (List.getD x51 (1:Nat) (0:Int))) && (((List.getD x43 (2:Nat) (0:Int)) == (List.getD x51 (2:Nat) (0:Int))) && (((List.getD x43 (3:Nat) (0:Int)) == (List.getD x51 (3:Nat) (0:Int))) && (((List.getD x43 (4:Nat) (0:Int)) == (List.getD x51 (4:Nat) (0:Int))) && (((List.getD x43 (5:Nat) (0:Int)) == (List.getD x51 (5:Nat) (0:Int))) && (((List.getD x43 (6:Nat) (0:Int)) == (List.getD x51 (6:Nat) (0:Int))) && true))))))) && ((x52 == x53) && ((x54 == x55) && true)))))))
  else
    (some false)
noncomputable def G_config_Same : T fa_config_Same → TH ha_config_Same → Option (Bool) := fun x y => F_config_Same x.1 x.2.1
noncomputable def c_config_Same : Orc := ent i_config_Same [] 0 (sp fa_config_Same ha_config_Same fr_config_Same hr_config_Same G_config_Same out_config_Same)
theorem ok_config_Same : OrcOk PR c_config_Same := fnT okO_config_Same mixed p_config_Same (by kernel_rfl) (by kernel_rfl) (L := L_config_Same) (kp := false) (by kernel_rfl) (inn := inn_config_Same) (out := out_config_Same) (fun _ _ => rfl) (loopsL (l := []) (by kernel_rfl) trivial) (fun x y => by kernel_rfl)
end Go.Proofs.Ytcpicekmnkjceaa.VI

namespace Go.Proofs.Ytcpicekmnkjceaa.VI
set_option linter.unusedVariables false
set_option linter.unusedSimpArgs false
set_option linter.unusedSimpArgs false
set_option linter.unusedVariables false
set_option maxRecDepth 100000
set_option maxHeartbeats 4000000
theorem ints_ext {a b : List Int} (hl : a.length = b.length) (h : ∀ j, j < a.length → a.getD j 0 = b.getD j 0) : a = b := by
  apply List.ext_getElem hl
  intro i h1 h2
  have := h i h1
  rwa [List.getD_eq_getElem?_getD, List.getD_eq_getElem?_getD, List.getElem?_eq_getElem h1, List.getElem?_eq_getElem h2] at this
theorem hints_eq {a b : List Int} (hL : a.length ≤ 1073741824) : F_annealhelp_Ints a b = some (decide (a = b)) := by
  unfold F_annealhelp_Ints
  rw [bif_ne]
  by_cases hl : a.length = b.length
  case neg => rw [if_neg (by omega)]; exact some_f fun k => hl (by rw [k])
  rw [if_pos (by omega)]
  simp only [List.take_length]
  have step : ∀ i, i < a.length → a.getD i 0 = b.getD i 0 → ∀ (R : Type) (kn ko), st_annealhelp_Ints_0 R ((a, (b, ((i : Int), ()))), ()) kn ko = kn ((a, (b, (((i + 1 : Nat) : Int), ()))), ()) := fun i hi he R kn ko => by
    have w1 : IntKind.i64.wrap ((i : Int) + 1) = ((i + 1 : Nat) : Int) := by rw [wi64 (by omega)]; omega
    have hi' : i < b.length := by omega
    simp only [st_annealhelp_Ints_0, ltI hi, ltI hi', natnn, and_self, decide_true, cond_true, List.take_length, Int.toNat_natCast, w1, he, bne_self_eq_false, cond_false]
  rcases least_bad (P := fun j => a.getD j 0 = b.getD j 0) a.length with h | ⟨k, h1, h2, h3⟩
  · have := lim_seq (st := st_annealhelp_Ints_0) (fun i => ((a, (b, ((i : Int), ()))), ())) (b := Sum.inl ((), ())) a.length (fun i hi R kn ko => step i hi (h i hi) R kn ko) (fun R kn ko => by
      simp only [st_annealhelp_Ints_0, ltI', decide_false, cond_false])
    simp only [Int.natCast_zero] at this
    rw [this]
    exact some_t (ints_ext hl h)
  · have := lim_seq (st := st_annealhelp_Ints_0) (fun i => ((a, (b, ((i : Int), ()))), ())) (b := Sum.inr ((false, ()), ())) k (fun i hi R kn ko => step i (by omega) (h3 i hi) R kn ko) (fun R kn ko => by
      have hi' : k < b.length := by omega
      have hn : (a.getD k 0 != b.getD k 0) = true := by simpa using h2
      simp only [st_annealhelp_Ints_0, ltI h1, ltI hi', natnn, and_self, decide_true, cond_true, Int.toNat_natCast, hn])
    simp only [Int.natCast_zero] at this
    rw [this]
    exact some_f fun k => h2 (by rw [k])
theorem equal_eq {a b : List Int} (hL : a.length ≤ 1073741824) : F_slices_EqualLLJint_intJ a b = some (decide (a = b)) := by
  unfold F_slices_EqualLLJint_intJ
  rw [bif_ne]
  by_cases hl : a.length = b.length
  case neg => rw [if_neg (by omega)]; exact some_f fun k => hl (by rw [k])
  rw [if_pos (by omega)]
  simp only [List.take_length]
  have step : ∀ i, i < a.length → a.getD i 0 = b.getD i 0 → ∀ (R : Type) (kn ko), st_slices_EqualLLJint_intJ_0 R ((a, (b, ((a.length : Int), ((i : Int), ())))), ()) kn ko = kn ((a, (b, ((a.length : Int), (((i + 1 : Nat) : Int), ())))), ()) := fun i hi he R kn ko => by
    have w1 : IntKind.i64.wrap ((i : Int) + 1) = ((i + 1 : Nat) : Int) := by rw [wi64 (by omega)]; omega
    have hi' : i < b.length := by omega
    simp only [st_slices_EqualLLJint_intJ_0, ltI hi, ltI hi', natnn, and_self, decide_true, cond_true, List.take_length, Int.toNat_natCast, w1, he, bne_self_eq_false, cond_false]
  rcases least_bad (P := fun j => a.getD j 0 = b.getD j 0) a.length with h | ⟨k, h1, h2, h3⟩
  · have := lim_seq (st := st_slices_EqualLLJint_intJ_0) (fun i => ((a, (b, ((a.length : Int), ((i : Int), ())))), ())) (b := Sum.inl ((), ())) a.length (fun i hi R kn ko => step i hi (h i hi) R kn ko) (fun R kn ko => by
      simp only [st_slices_EqualLLJint_intJ_0, ltI', decide_false, cond_false])
    simp only [Int.natCast_zero] at this
    rw [this]
    exact some_t (ints_ext hl h)
  · have := lim_seq (st := st_slices_EqualLLJint_intJ_0) (fun i => ((a, (b, ((a.length : Int), ((i : Int), ())))), ())) (b := Sum.inr ((false, ()), ())) k (fun i hi R kn ko => step i (by omega) (h3 i hi) R kn ko) (fun R kn ko => by
      have hi' : k < b.length := by omega
      have hn : (a.getD k 0 != b.getD k 0) = true := by simpa using h2
      simp only [st_slices_EqualLLJint_intJ_0, ltI h1, ltI hi', natnn, and_self, decide_true, cond_true, Int.toNat_natCast, hn])
    simp only [Int.natCast_zero] at this
    rw [this]
    exact some_f fun k => h2 (by rw [k])
theorem bif_band {a b : Bool} : (bif a then some b else some false) = some (a && b) := by cases a <;> rfl
noncomputable instance (c d : CfgT) : Decidable (c = d) := Classical.propDecidable _
theorem hcfg_eq (c d : CfgT) (hL : c.w.length ≤ 1073741824) : F_annealhelp_Config c d = some (decide (c = d)) := by
  unfold F_annealhelp_Config
  simp only [List.take_length, hints_eq hL, Option.bind_some, bif_band]
  obtain ⟨w, f, act, loss, opt, sched, rate, mu, beta, eps, decay, clip, warm, total, batch, accum, seed, drop, chance, log, mi, ma, bk, gr, itv, save, _⟩ := c
  obtain ⟨w', f', act', loss', opt', sched', rate', mu', beta', eps', decay', clip', warm', total', batch', accum', seed', drop', chance', log', mi', ma', bk', gr', itv', save', _⟩ := d
  refine congrArg some ?_
  rw [Bool.eq_iff_iff]
  simp only [CfgT.w, Bool.and_eq_true, decide_eq_true_eq, beq_iff_eq, Prod.mk.injEq, and_true]
theorem same_eq (c d : CfgT) (hL : c.w.length ≤ 1073741824) : F_config_Same c d = some (decide (c = d)) := by
  unfold F_config_Same
  simp only [List.take_length, equal_eq hL, Option.bind_some, bif_band]
  obtain ⟨w, f, act, loss, opt, sched, rate, mu, beta, eps, decay, clip, warm, total, batch, accum, seed, drop, chance, log, mi, ma, bk, gr, itv, save, _⟩ := c
  obtain ⟨w', f', act', loss', opt', sched', rate', mu', beta', eps', decay', clip', warm', total', batch', accum', seed', drop', chance', log', mi', ma', bk', gr', itv', save', _⟩ := d
  refine congrArg some ?_
  rw [Bool.eq_iff_iff]
  simp only [CfgT.w, Bool.and_eq_true, decide_eq_true_eq, beq_iff_eq, Prod.mk.injEq, and_true, List.getD_cons_zero, List.getD_cons_succ]
  exact ⟨fun ⟨h_w, ⟨h_f, h_act, h_loss, h_opt, h_sched⟩, ⟨h_rate, h_mu, h_beta, h_eps, h_decay, h_clip, h_drop⟩, ⟨h_warm, h_total, h_batch, h_accum⟩, ⟨h_log, h_mi, h_ma, h_bk, h_gr, h_itv, h_save⟩, h_seed, h_chance⟩ => ⟨h_w, h_f, h_act, h_loss, h_opt, h_sched, h_rate, h_mu, h_beta, h_eps, h_decay, h_clip, h_warm, h_total, h_batch, h_accum, h_seed, h_drop, h_chance, h_log, h_mi, h_ma, h_bk, h_gr, h_itv, h_save⟩, fun ⟨h_w, h_f, h_act, h_loss, h_opt, h_sched, h_rate, h_mu, h_beta, h_eps, h_decay, h_clip, h_warm, h_total, h_batch, h_accum, h_seed, h_drop, h_chance, h_log, h_mi, h_ma, h_bk, h_gr, h_itv, h_save⟩ => ⟨h_w, ⟨h_f, h_act, h_loss, h_opt, h_sched⟩, ⟨h_rate, h_mu, h_beta, h_eps, h_decay, h_clip, h_drop⟩, ⟨h_warm, h_total, h_batch, h_accum⟩, ⟨h_log, h_mi, h_ma, h_bk, h_gr, h_itv, h_save⟩, h_seed, h_chance⟩⟩
end Go.Proofs.Ytcpicekmnkjceaa.VI
