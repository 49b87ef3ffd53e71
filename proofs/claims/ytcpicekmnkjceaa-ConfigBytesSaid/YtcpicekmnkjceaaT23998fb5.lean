import Derived.Test.YtcpicekmnkjceaaT954a0c17
namespace Go.Proofs.Ytcpicekmnkjceaa.VI
set_option linter.unusedVariables false
set_option linter.unusedSimpArgs false
set_option linter.unusedSimpArgs false
set_option linter.unusedVariables false
set_option maxRecDepth 100000
set_option maxHeartbeats 4000000
def bts (k : Nat) (v : Int) : List Int := (List.range k).map fun i => v / 2 ^ (8 * i) % 256
theorem bts_succ (k : Nat) (v : Int) : bts (k + 1) v = bts k v ++ [v / 2 ^ (8 * k) % 256] := by
  simp [bts, List.range_succ]
theorem bts_len (k : Nat) (v : Int) : (bts k v).length = k := by simp [bts]
theorem lay_eq {xs : List Int} {n k : Nat} {v : Int} (hn : xs.length = n) (hk : k ≤ 8) (hl : n + k ≤ 1073741824) : F_config_lay n v (k : Int) xs = some (n + k, (xs ++ bts k v, ())) := by
  unfold F_config_lay
  have := lim_seq (st := st_config_lay_0) (fun i => ((n + i, v, (k : Int), (i : Int), ()), (xs ++ bts i v, ()))) (b := ((n + k, ()), (xs ++ bts k v, ()))) k (fun i hi R kn ko => by
    have w1 : IntKind.i64.wrap ((i : Int) + 1) = ((i + 1 : Nat) : Int) := by rw [wi64 (by omega)]; omega
    have w2 : IntKind.i64.wrap (8 * (i : Int)) = ((8 * i : Nat) : Int) := by rw [wi64 (by omega)]; omega
    have w3 : IntKind.u64.wrap ((8 * i : Nat) : Int) = ((8 * i : Nat) : Int) := wu64 (by omega)
    have hb : (n + i + 1 ≤ 1073741824) = True := by simp; omega
    have ht : (xs ++ bts i v).take (n + i) = xs ++ bts i v := List.take_of_length_le (by simp [bts_len, hn])
    have hm : Min.min (8 * i) 64 = 8 * i := by omega
    simp only [st_config_lay_0, ltI hi, w1, w2, w3, natnn, hb, decide_true, cond_true, Int.toNat_natCast, ht, hm, wu8_eq, bts_succ, List.append_assoc]
    rfl) (fun R kn ko => by
    simp only [st_config_lay_0, ltI', decide_false, cond_false])
  simp only [Int.natCast_zero, Nat.add_zero] at this
  have e0 : xs ++ bts 0 v = xs := by simp [bts]
  rw [e0] at this
  rw [this]; rfl
theorem put_eq {xs : List Int} {n k : Nat} {v : Int} (hn : xs.length = n) (hk : k ≤ 8) (hl : n + k ≤ 1073741824) : F_annealref24_put n v (k : Int) xs = some (n + k, (xs ++ bts k v, ())) := by
  unfold F_annealref24_put
  have := lim_seq (st := st_annealref24_put_0) (fun i => ((n + i, v, (k : Int), (i : Int), ()), (xs ++ bts i v, ()))) (b := ((n + k, ()), (xs ++ bts k v, ()))) k (fun i hi R kn ko => by
    have w1 : IntKind.i64.wrap ((i : Int) + 1) = ((i + 1 : Nat) : Int) := by rw [wi64 (by omega)]; omega
    have w2 : IntKind.i64.wrap (8 * (i : Int)) = ((8 * i : Nat) : Int) := by rw [wi64 (by omega)]; omega
    have hb : (n + i + 1 ≤ 1073741824) = True := by simp; omega
    have ht : (xs ++ bts i v).take (n + i) = xs ++ bts i v := List.take_of_length_le (by simp [bts_len, hn])
    have hm : Min.min (8 * i) 64 = 8 * i := by omega
    simp only [st_annealref24_put_0, ltI hi, w1, w2, natnn, hb, decide_true, cond_true, Int.toNat_natCast, ht, hm, wu8_eq, bts_succ, List.append_assoc]
    rfl) (fun R kn ko => by
    simp only [st_annealref24_put_0, ltI', decide_false, cond_false])
  simp only [Int.natCast_zero, Nat.add_zero] at this
  have e0 : xs ++ bts 0 v = xs := by simp [bts]
  rw [e0] at this
  rw [this]; rfl
def wbs (w : List Int) : Nat → List Int
  | 0 => []
  | i + 1 => wbs w i ++ bts 2 (w.getD i 0)
theorem wbs_len (w : List Int) : ∀ i, (wbs w i).length = 2 * i
  | 0 => rfl
  | i + 1 => by simp [wbs, wbs_len w i, bts_len]; omega
def head (c : CfgT) : List Int := [65, 78, 78, 69, 65, 76, 49, 0, (c.w.length : Int)]
def flagN (b : Bool) : Int := bif b then 1 else 0
def tail (c : CfgT) : List Int :=
  [c.f, c.act, c.loss, c.opt, c.sched, flagN c.chance] ++ (bts 4 c.rate ++ (bts 4 c.mu ++ (bts 4 c.beta ++ (bts 4 c.eps ++ (bts 4 c.decay ++ (bts 4 c.clip ++ (bts 4 c.drop ++ (bts 4 c.warm ++ (bts 4 c.total ++ (bts 4 c.itv ++ (bts 4 c.save ++ (bts 2 c.batch ++ (bts 2 c.accum ++ ([c.log, c.mi, c.ma, c.bk, c.gr] ++ bts 8 c.seed))))))))))))))
def enc_ (c : CfgT) : List Int := head c ++ (wbs c.w c.w.length ++ tail c)
theorem enc_len (c : CfgT) : (enc_ c).length = 76 + 2 * c.w.length := by
  simp [enc_, head, tail, wbs_len, bts_len]; omega
theorem lay_b {α : Type} {xs : List Int} {n k : Nat} {v : Int} {K : Nat × List Int × Unit → Option α} (hk : k ≤ 8) (hn : xs.length = n) (hl : n ≤ 1000000) : (F_config_lay n v (k : Int) xs).bind K = K (n + k, (xs ++ bts k v, ())) := by
  rw [lay_eq hn hk (by omega)]; rfl
theorem put_b {α : Type} {xs : List Int} {n k : Nat} {v : Int} {K : Nat × List Int × Unit → Option α} (hk : k ≤ 8) (hn : xs.length = n) (hl : n ≤ 1000000) : (F_annealref24_put n v (k : Int) xs).bind K = K (n + k, (xs ++ bts k v, ())) := by
  rw [put_eq hn hk (by omega)]; rfl
theorem lay2 {α : Type} {xs : List Int} {n : Nat} {v : Int} {K : Nat × List Int × Unit → Option α} (hn : xs.length = n) (hl : n ≤ 1000000) : (F_config_lay n v 2 xs).bind K = K (n + 2, (xs ++ bts 2 v, ())) := lay_b (k := 2) (by omega) hn hl
theorem lay4 {α : Type} {xs : List Int} {n : Nat} {v : Int} {K : Nat × List Int × Unit → Option α} (hn : xs.length = n) (hl : n ≤ 1000000) : (F_config_lay n v 4 xs).bind K = K (n + 4, (xs ++ bts 4 v, ())) := lay_b (k := 4) (by omega) hn hl
theorem lay8 {α : Type} {xs : List Int} {n : Nat} {v : Int} {K : Nat × List Int × Unit → Option α} (hn : xs.length = n) (hl : n ≤ 1000000) : (F_config_lay n v 8 xs).bind K = K (n + 8, (xs ++ bts 8 v, ())) := lay_b (k := 8) (by omega) hn hl
theorem put2 {α : Type} {xs : List Int} {n : Nat} {v : Int} {K : Nat × List Int × Unit → Option α} (hn : xs.length = n) (hl : n ≤ 1000000) : (F_annealref24_put n v 2 xs).bind K = K (n + 2, (xs ++ bts 2 v, ())) := put_b (k := 2) (by omega) hn hl
theorem put4 {α : Type} {xs : List Int} {n : Nat} {v : Int} {K : Nat × List Int × Unit → Option α} (hn : xs.length = n) (hl : n ≤ 1000000) : (F_annealref24_put n v 4 xs).bind K = K (n + 4, (xs ++ bts 4 v, ())) := put_b (k := 4) (by omega) hn hl
theorem put8 {α : Type} {xs : List Int} {n : Nat} {v : Int} {K : Nat × List Int × Unit → Option α} (hn : xs.length = n) (hl : n ≤ 1000000) : (F_annealref24_put n v 8 xs).bind K = K (n + 8, (xs ++ bts 8 v, ())) := put_b (k := 8) (by omega) hn hl
theorem tk {xs : List Int} {n : Nat} (h : xs.length = n) : List.take n xs = xs := List.take_of_length_le (by omega)
theorem cput_eq {c : CfgT} (h : cU c) (hsd : (0 ≤ c.seed ∧ c.seed < 18446744073709551616) ∧ 0 ≤ c.drop) : F_config_Put c = some (if right c then (enc_ c, 0, ()) else ([], 24, ())) := by
  unfold F_config_Put
  simp only [List.take_length, eta2, check_eq h, Option.bind_some, bif_ne]
  by_cases hr : right c
  case neg => rw [if_neg hr, if_neg hr, if_neg (by decide)]
  rw [if_pos hr, if_pos hr, if_pos rfl]
  have hwl : c.1.length ≤ 65 := hr.1.2.1
  have e8 : IntKind.u8.wrap (c.1.length : Int) = (c.1.length : Int) := wu8 (by omega)
  have key : lim st_config_Put_0 ((9, (c.1, ((c.1.length : Int), (0, ())))), (c, ([65, 78, 78, 69, 65, 76, 49, 0, (c.1.length : Int)], ()))) = some ((9 + 2 * c.1.length, ()), (c, (head c ++ wbs c.1 c.1.length, ()))) := by
    have := lim_seq (st := st_config_Put_0) (fun i => ((9 + 2 * i, (c.1, ((c.1.length : Int), ((i : Int), ())))), (c, (head c ++ wbs c.1 i, ())))) (b := ((9 + 2 * c.1.length, ()), (c, (head c ++ wbs c.1 c.1.length, ())))) c.1.length (fun i hi R kn ko => by
      have w1 : IntKind.i64.wrap ((i : Int) + 1) = ((i + 1 : Nat) : Int) := by rw [wi64 (by omega)]; omega
      have hb : 1 ≤ c.1.getD i 0 ∧ c.1.getD i 0 ≤ 4096 := hr.1.2.2 i hi
      have w2 : IntKind.u64.wrap (c.1.getD i 0) = c.1.getD i 0 := wu64 (by omega)
      have hlen : (head c ++ wbs c.1 i).length = 9 + 2 * i := by simp [head, wbs_len]; omega
      simp only [st_config_Put_0, ltI hi, natnn, and_self, decide_true, cond_true, List.take_length, Int.toNat_natCast, w1, w2, eta2]
      rw [lay2 hlen (by omega)]
      simp only [wbs, List.append_assoc, show 9 + 2 * (i + 1) = 9 + 2 * i + 2 by omega]) (fun R kn ko => by
      simp only [st_config_Put_0, ltI', decide_false, cond_false, List.take_length, eta2])
    simp only [Int.natCast_zero, Nat.mul_zero, Nat.add_zero, wbs, List.append_nil] at this
    exact this
  rw [e8, key]
  obtain ⟨w, f, act, loss, opt, sched, rate, mu, beta, eps, decay, clip, warm, total, batch, accum, seed, drop, chance, log, mi, ma, bk, gr, itv, save, _⟩ := c
  obtain ⟨_, _, ⟨k1, k2, k3, k4, k5⟩, ⟨n1, n2, n3, n4, n5, n6⟩, ⟨q1, q2, q3, q4, q5, q6, q7, q8, q9, q10, q11, q12⟩, _⟩ := hr
  obtain ⟨u1, u2, u3, u4, u5, u6⟩ := h
  obtain ⟨s1, s2⟩ := hsd
  simp only [CfgT.f, CfgT.act, CfgT.loss, CfgT.opt, CfgT.sched, CfgT.rate, CfgT.mu, CfgT.beta, CfgT.eps, CfgT.decay, CfgT.clip, CfgT.warm, CfgT.total, CfgT.batch, CfgT.accum, CfgT.seed, CfgT.drop, CfgT.chance, CfgT.log, CfgT.mi, CfgT.ma, CfgT.bk, CfgT.gr, CfgT.itv, CfgT.save, CfgT.w] at *
  have hX : (head (w, f, act, loss, opt, sched, rate, mu, beta, eps, decay, clip, warm, total, batch, accum, seed, drop, chance, log, mi, ma, bk, gr, itv, save, ()) ++ wbs w w.length).length = 9 + 2 * w.length := by simp [head, wbs_len]; omega
  unfold enc_
  rw [← List.append_assoc]
  generalize hXe : head (w, f, act, loss, opt, sched, rate, mu, beta, eps, decay, clip, warm, total, batch, accum, seed, drop, chance, log, mi, ma, bk, gr, itv, save, ()) ++ wbs w w.length = X at hX ⊢
  have hm : 9 + 2 * w.length ≤ 139 := by omega
  generalize 9 + 2 * w.length = m at hX hm ⊢
  have a1 : IntKind.u8.wrap f = f := wu8 (by omega)
  have a2 : IntKind.u8.wrap act = act := wu8 (by omega)
  have a3 : IntKind.u8.wrap loss = loss := wu8 (by omega)
  have a4 : IntKind.u8.wrap opt = opt := wu8 (by omega)
  have a5 : IntKind.u8.wrap sched = sched := wu8 (by omega)
  have a7 : IntKind.u8.wrap log = log := wu8 (by omega)
  have a8 : IntKind.u8.wrap mi = mi := wu8 (by omega)
  have a9 : IntKind.u8.wrap ma = ma := wu8 (by omega)
  have a10 : IntKind.u8.wrap bk = bk := wu8 (by omega)
  have a11 : IntKind.u8.wrap gr = gr := wu8 (by omega)
  have b1 : IntKind.u64.wrap rate = rate := wu64 (by omega)
  have b2 : IntKind.u64.wrap mu = mu := wu64 (by omega)
  have b3 : IntKind.u64.wrap beta = beta := wu64 (by omega)
  have b4 : IntKind.u64.wrap eps = eps := wu64 (by omega)
  have b5 : IntKind.u64.wrap decay = decay := wu64 (by omega)
  have b6 : IntKind.u64.wrap clip = clip := wu64 (by omega)
  have b7 : IntKind.u64.wrap drop = drop := wu64 (by omega)
  have b8 : IntKind.u64.wrap (IntKind.u32.wrap warm) = warm := by rw [wu32 (by omega), wu64 (by omega)]
  have b9 : IntKind.u64.wrap (IntKind.u32.wrap total) = total := by rw [wu32 (by omega), wu64 (by omega)]
  have b10 : IntKind.u64.wrap (IntKind.u32.wrap itv) = itv := by rw [wu32 (by omega), wu64 (by omega)]
  have b11 : IntKind.u64.wrap (IntKind.u32.wrap save) = save := by rw [wu32 (by omega), wu64 (by omega)]
  have b12 : IntKind.u64.wrap batch = batch := wu64 (by omega)
  have b13 : IntKind.u64.wrap accum = accum := wu64 (by omega)
  have hfl : F_config_flag chance = some (flagN chance) := by unfold F_config_flag flagN; cases chance <;> rfl
  have hf8 : IntKind.u8.wrap (flagN chance) = flagN chance := by unfold flagN; cases chance <;> rfl
  have l1 : (m + 1 ≤ 1073741824) = True := by simp; omega
  have l2 : (m + 1 + 1 ≤ 1073741824) = True := by simp; omega
  have l3 : (m + 1 + 1 + 1 ≤ 1073741824) = True := by simp; omega
  have l4 : (m + 1 + 1 + 1 + 1 ≤ 1073741824) = True := by simp; omega
  have l5 : (m + 1 + 1 + 1 + 1 + 1 ≤ 1073741824) = True := by simp; omega
  have l6 : (m + 1 + 1 + 1 + 1 + 1 + 1 ≤ 1073741824) = True := by simp; omega
  simp only [Option.bind_some, hfl, List.getD_cons_zero, List.getD_cons_succ, l1, l2, l3, l4, l5, l6, decide_true, cond_true, a1, a2, a3, a4, a5, hf8, b1, b2, b3, b4, b5, b6, b7, b8, b9, b10, b11, b12, b13]
  rw [tk hX, tk (n := m + 1) (by simp [hX]), tk (n := m + 1 + 1) (by simp [hX]), tk (n := m + 1 + 1 + 1) (by simp [hX]), tk (n := m + 1 + 1 + 1 + 1) (by simp [hX]), tk (n := m + 1 + 1 + 1 + 1 + 1) (by simp [hX])]
  iterate 11 (rw [lay4 (by simp [hX, bts_len]) (by omega)]; dsimp only)
  iterate 2 (rw [lay2 (by simp [hX, bts_len]) (by omega)]; dsimp only)
  rw [tk (n := m + 1 + 1 + 1 + 1 + 1 + 1 + 4 + 4 + 4 + 4 + 4 + 4 + 4 + 4 + 4 + 4 + 4 + 2 + 2) (by simp [hX, bts_len])]
  have l7 : (m + 1 + 1 + 1 + 1 + 1 + 1 + 4 + 4 + 4 + 4 + 4 + 4 + 4 + 4 + 4 + 4 + 4 + 2 + 2 + 1 ≤ 1073741824) = True := by simp; omega
  have l8 : (m + 1 + 1 + 1 + 1 + 1 + 1 + 4 + 4 + 4 + 4 + 4 + 4 + 4 + 4 + 4 + 4 + 4 + 2 + 2 + 1 + 1 ≤ 1073741824) = True := by simp; omega
  have l9 : (m + 1 + 1 + 1 + 1 + 1 + 1 + 4 + 4 + 4 + 4 + 4 + 4 + 4 + 4 + 4 + 4 + 4 + 2 + 2 + 1 + 1 + 1 ≤ 1073741824) = True := by simp; omega
  have l10 : (m + 1 + 1 + 1 + 1 + 1 + 1 + 4 + 4 + 4 + 4 + 4 + 4 + 4 + 4 + 4 + 4 + 4 + 2 + 2 + 1 + 1 + 1 + 1 ≤ 1073741824) = True := by simp; omega
  have l11 : (m + 1 + 1 + 1 + 1 + 1 + 1 + 4 + 4 + 4 + 4 + 4 + 4 + 4 + 4 + 4 + 4 + 4 + 2 + 2 + 1 + 1 + 1 + 1 + 1 ≤ 1073741824) = True := by simp; omega
  simp only [l7, l8, l9, l10, l11, decide_true, cond_true, a7, a8, a9, a10, a11]
  rw [tk (n := m + 1 + 1 + 1 + 1 + 1 + 1 + 4 + 4 + 4 + 4 + 4 + 4 + 4 + 4 + 4 + 4 + 4 + 2 + 2 + 1) (by simp [hX, bts_len]), tk (n := m + 1 + 1 + 1 + 1 + 1 + 1 + 4 + 4 + 4 + 4 + 4 + 4 + 4 + 4 + 4 + 4 + 4 + 2 + 2 + 1 + 1) (by simp [hX, bts_len]), tk (n := m + 1 + 1 + 1 + 1 + 1 + 1 + 4 + 4 + 4 + 4 + 4 + 4 + 4 + 4 + 4 + 4 + 4 + 2 + 2 + 1 + 1 + 1) (by simp [hX, bts_len]), tk (n := m + 1 + 1 + 1 + 1 + 1 + 1 + 4 + 4 + 4 + 4 + 4 + 4 + 4 + 4 + 4 + 4 + 4 + 2 + 2 + 1 + 1 + 1 + 1) (by simp [hX, bts_len])]
  rw [lay8 (by simp [hX, bts_len]) (by omega)]
  simp only [List.drop_zero]
  rw [tk (by simp [hX, bts_len])]
  simp only [tail, List.append_assoc, List.cons_append, List.nil_append]
theorem rput_eq {c : CfgT} (h : cU c) (hsd : (0 ≤ c.seed ∧ c.seed < 18446744073709551616) ∧ 0 ≤ c.drop) : F_annealref24_Put c = some (if right c then (enc_ c, 0, ()) else ([], 24, ())) := by
  unfold F_annealref24_Put
  simp only [List.take_length, eta2, rcheck_eq h, Option.bind_some, bif_ne]
  by_cases hr : right c
  case neg => rw [if_neg hr, if_neg hr, if_neg (by decide)]
  rw [if_pos hr, if_pos hr, if_pos rfl]
  have hwl : c.1.length ≤ 65 := hr.1.2.1
  have e8 : IntKind.u8.wrap (c.1.length : Int) = (c.1.length : Int) := wu8 (by omega)
  have key : lim st_annealref24_Put_0 ((9, (0, ())), (c, ([65, 78, 78, 69, 65, 76, 49, 0, (c.1.length : Int)], ()))) = some ((9 + 2 * c.1.length, ()), (c, (head c ++ wbs c.1 c.1.length, ()))) := by
    have := lim_seq (st := st_annealref24_Put_0) (fun i => ((9 + 2 * i, ((i : Int), ())), (c, (head c ++ wbs c.1 i, ())))) (b := ((9 + 2 * c.1.length, ()), (c, (head c ++ wbs c.1 c.1.length, ())))) c.1.length (fun i hi R kn ko => by
      have w1 : IntKind.i64.wrap ((i : Int) + 1) = ((i + 1 : Nat) : Int) := by rw [wi64 (by omega)]; omega
      have hb : 1 ≤ c.1.getD i 0 ∧ c.1.getD i 0 ≤ 4096 := hr.1.2.2 i hi
      have w2 : IntKind.u64.wrap (c.1.getD i 0) = c.1.getD i 0 := wu64 (by omega)
      have hlen : (head c ++ wbs c.1 i).length = 9 + 2 * i := by simp [head, wbs_len]; omega
      simp only [st_annealref24_Put_0, ltI hi, natnn, and_self, decide_true, cond_true, List.take_length, Int.toNat_natCast, w1, w2, eta2]
      rw [put2 hlen (by omega)]
      simp only [wbs, List.append_assoc, show 9 + 2 * (i + 1) = 9 + 2 * i + 2 by omega]) (fun R kn ko => by
      simp only [st_annealref24_Put_0, ltI', decide_false, cond_false, List.take_length, eta2])
    simp only [Int.natCast_zero, Nat.mul_zero, Nat.add_zero, wbs, List.append_nil] at this
    exact this
  rw [e8, key]
  obtain ⟨w, f, act, loss, opt, sched, rate, mu, beta, eps, decay, clip, warm, total, batch, accum, seed, drop, chance, log, mi, ma, bk, gr, itv, save, _⟩ := c
  obtain ⟨_, _, ⟨k1, k2, k3, k4, k5⟩, ⟨n1, n2, n3, n4, n5, n6⟩, ⟨q1, q2, q3, q4, q5, q6, q7, q8, q9, q10, q11, q12⟩, _⟩ := hr
  obtain ⟨u1, u2, u3, u4, u5, u6⟩ := h
  obtain ⟨s1, s2⟩ := hsd
  simp only [CfgT.f, CfgT.act, CfgT.loss, CfgT.opt, CfgT.sched, CfgT.rate, CfgT.mu, CfgT.beta, CfgT.eps, CfgT.decay, CfgT.clip, CfgT.warm, CfgT.total, CfgT.batch, CfgT.accum, CfgT.seed, CfgT.drop, CfgT.chance, CfgT.log, CfgT.mi, CfgT.ma, CfgT.bk, CfgT.gr, CfgT.itv, CfgT.save, CfgT.w] at *
  have hX : (head (w, f, act, loss, opt, sched, rate, mu, beta, eps, decay, clip, warm, total, batch, accum, seed, drop, chance, log, mi, ma, bk, gr, itv, save, ()) ++ wbs w w.length).length = 9 + 2 * w.length := by simp [head, wbs_len]; omega
  unfold enc_
  rw [← List.append_assoc]
  generalize hXe : head (w, f, act, loss, opt, sched, rate, mu, beta, eps, decay, clip, warm, total, batch, accum, seed, drop, chance, log, mi, ma, bk, gr, itv, save, ()) ++ wbs w w.length = X at hX ⊢
  have hm : 9 + 2 * w.length ≤ 139 := by omega
  generalize 9 + 2 * w.length = m at hX hm ⊢
  have a1 : IntKind.u8.wrap f = f := wu8 (by omega)
  have a2 : IntKind.u8.wrap act = act := wu8 (by omega)
  have a3 : IntKind.u8.wrap loss = loss := wu8 (by omega)
  have a4 : IntKind.u8.wrap opt = opt := wu8 (by omega)
  have a5 : IntKind.u8.wrap sched = sched := wu8 (by omega)
  have a7 : IntKind.u8.wrap log = log := wu8 (by omega)
  have a8 : IntKind.u8.wrap mi = mi := wu8 (by omega)
  have a9 : IntKind.u8.wrap ma = ma := wu8 (by omega)
  have a10 : IntKind.u8.wrap bk = bk := wu8 (by omega)
  have a11 : IntKind.u8.wrap gr = gr := wu8 (by omega)
  have b1 : IntKind.u64.wrap rate = rate := wu64 (by omega)
  have b2 : IntKind.u64.wrap mu = mu := wu64 (by omega)
  have b3 : IntKind.u64.wrap beta = beta := wu64 (by omega)
  have b4 : IntKind.u64.wrap eps = eps := wu64 (by omega)
  have b5 : IntKind.u64.wrap decay = decay := wu64 (by omega)
  have b6 : IntKind.u64.wrap clip = clip := wu64 (by omega)
  have b7 : IntKind.u64.wrap drop = drop := wu64 (by omega)
  have b8 : IntKind.u64.wrap (IntKind.u32.wrap warm) = warm := by rw [wu32 (by omega), wu64 (by omega)]
  have b9 : IntKind.u64.wrap (IntKind.u32.wrap total) = total := by rw [wu32 (by omega), wu64 (by omega)]
  have b10 : IntKind.u64.wrap (IntKind.u32.wrap itv) = itv := by rw [wu32 (by omega), wu64 (by omega)]
  have b11 : IntKind.u64.wrap (IntKind.u32.wrap save) = save := by rw [wu32 (by omega), wu64 (by omega)]
  have b12 : IntKind.u64.wrap batch = batch := wu64 (by omega)
  have b13 : IntKind.u64.wrap accum = accum := wu64 (by omega)
  have hfl : (bif chance then (1 : Int) else 0) = flagN chance := rfl
  have l1 : (m + 6 ≤ 1073741824) = True := by simp; omega
  simp only [Option.bind_some, hfl, List.getD_cons_zero, List.getD_cons_succ, l1, decide_true, cond_true, a1, a2, a3, a4, a5, b1, b2, b3, b4, b5, b6, b7, b8, b9, b10, b11, b12, b13]
  rw [tk hX]
  iterate 11 (rw [put4 (by simp [hX, bts_len]) (by omega)]; dsimp only)
  iterate 2 (rw [put2 (by simp [hX, bts_len]) (by omega)]; dsimp only)
  have l7 : (m + 6 + 4 + 4 + 4 + 4 + 4 + 4 + 4 + 4 + 4 + 4 + 4 + 2 + 2 + 5 ≤ 1073741824) = True := by simp; omega
  simp only [l7, decide_true, cond_true, a7, a8, a9, a10, a11]
  rw [tk (n := m + 6 + 4 + 4 + 4 + 4 + 4 + 4 + 4 + 4 + 4 + 4 + 4 + 2 + 2) (by simp [hX, bts_len])]
  rw [put8 (by simp [hX, bts_len]) (by omega)]
  simp only [List.drop_zero]
  rw [tk (by simp [hX, bts_len])]
  simp only [tail, List.append_assoc, List.cons_append, List.nil_append]
end Go.Proofs.Ytcpicekmnkjceaa.VI

namespace Go.Proofs.Ytcpicekmnkjceaa.VI
set_option linter.unusedVariables false
set_option linter.unusedSimpArgs false
set_option maxRecDepth 100000
set_option linter.unusedSimpArgs false
set_option linter.unusedVariables false
noncomputable def O_config_take : Orc := orn
theorem okO_config_take : OrcOk PR O_config_take := (orn_ok _)
abbrev fa_config_take : Fm := (.cst (.ref 0 1 0) (.pair (.i .i64) .unit))
abbrev ha_config_take : List BF := [(.list 1 y_LJuint8 true (.pair (.si .u8) .unit))]
abbrev fr_config_take : Fm := (.i .u64)
abbrev hr_config_take : List BF := [(.list 1 y_LJuint8 true (.pair (.si .u8) .unit))]
abbrev ff_config_take_0 : Fm := (.cst (.ref 0 1 0) (.pair (.i .i64) (.us 3 (.pair (.i .u64) (.us 6 (.pair (.si .u8) (.pair (.i .i64) (.pair (.i .i64) (.us 21 .unit)))))))))
abbrev hf_config_take_0 : List BF := [(.list 1 y_LJuint8 true (.pair (.si .u8) .unit))]
abbrev X_config_take_0 : Xs := (.one (.exit 0) [0, 1, 5] (.cst (.ref 0 1 0) (.pair (.i .i64) (.us 3 (.pair (.i .u64) (.us 30 .unit))))) [(.list 1 y_LJuint8 true (.pair (.si .u8) .unit))])
abbrev S_config_take_0 : Type := T ff_config_take_0 × TH hf_config_take_0
abbrev E_config_take_0 : Type := TX X_config_take_0
noncomputable def LB_config_take_0 : Lps := L0
noncomputable def st_config_take_0 : StepT S_config_take_0 E_config_take_0 := fun R v kn ko =>
  let x0 : Int := v.1.1
  let x1 : Int := v.1.2.1
  let x2 : List Int := v.1.2.2.1
  let x3 : Int := v.1.2.2.2.2.1
  let x4 : List Int := v.2.1.1
  bif (decide (x3 < v.1.2.2.2.1)) then
    bif (decide (((0:Int) ≤ x3) ∧ (x3 < (((List.length x2) : Nat) : Int)))) then
      bif (decide ((0:Int) ≤ (IntKind.wrap .u64 (IntKind.wrap .i64 ((8:Int) * x3))))) then
        (kn ((x0, ((bits .or .u64 x1 (IntKind.wrap .u64 ((IntKind.wrap .u64 (List.getD x2 (Int.toNat x3) (0:Int))) * ((2:Int) ^ (Min.min (Int.toNat (IntKind.wrap .u64 (IntKind.wrap .i64 ((8:Int) * x3)))) (64:Nat)))))), ((List.take (List.length x2) x2), (v.1.2.2.2.1, ((IntKind.wrap .i64 (x3 + (1:Int))), ()))))), (((List.take (List.length x4) x4), ()), ())))
      else
        none
    else
      none
  else
    (ko ((x0, (x1, ())), (((List.take (List.length x4) x4), ()), ())))
noncomputable def ls_config_take_0 : St → LTr := (lsum ff_config_take_0 hf_config_take_0 X_config_take_0 Prod.mk id st_config_take_0 (hd [] [] [0, 1, 5, 12, 13, 14] 1))
theorem lp_config_take_0 : LoopOk PR 1 (lpN f_config_take 0) ls_config_take_0 := loopT okO_config_take mixed (L := LB_config_take_0) (d := 1) (bs := []) (ks := [0, 1, 5, 12, 13, 14]) (loopsL (l := []) (by kernel_rfl) trivial) (by kernel_rfl) (inS := Prod.mk) (outS := id) (fun _ _ => rfl) (inX := id) (outX := id) (fun _ => rfl) (fun v R kn ko => by kernel_rfl) (hd_wk [] [] [0, 1, 5, 12, 13, 14] 1)
noncomputable def L_config_take : Lps := (lpB 4 (.by_ ls_config_take_0) L0)
def inn_config_take : T fr_config_take → TH hr_config_take → (Int) × ((List Int × Unit) × Unit) := Prod.mk
def out_config_take : (Int) × ((List Int × Unit) × Unit) → T fr_config_take × TH hr_config_take := id
noncomputable def F_config_take (a0 : Int) (a1 : List Int × Unit) : Option ((Int) × ((List Int × Unit) × Unit)) :=
  let x0 : Nat := ((Int.toNat a0) - (0:Nat))
  bif (decide (((0:Int) ≤ (0:Int)) ∧ (((0:Int) ≤ a0) ∧ (a0 ≤ (((List.length a1.1) : Nat) : Int))))) then
    ((lim st_config_take_0 ((a0, ((0:Int), ((List.take x0 (List.take x0 (List.drop (0:Nat) a1.1))), (((x0 : Nat) : Int), ((0:Int), ()))))), (((List.take (List.length a1.1) a1.1), ()), ())))).bind fun r1 =>
    let x2 : List Int := r1.2.1.1
    let x3 : Nat := (Int.toNat r1.1.1)
    let x4 : Nat := ((Int.toNat (((List.length x2) : Nat) : Int)) - x3)
    bif (decide (((0:Int) ≤ r1.1.1) ∧ ((r1.1.1 ≤ (((List.length x2) : Nat) : Int)) ∧ ((((List.length x2) : Nat) : Int) ≤ (((List.length x2) : Nat) : Int))))) then
      (some (r1.1.2.1, (((List.take x4 (List.take x4 (List.drop x3 x2))), ()), ())))
    else
      none
  else
    none
noncomputable def G_config_take : T fa_config_take → TH ha_config_take → Option ((Int) × ((List Int × Unit) × Unit)) := fun x y => F_config_take x.1 y.1
noncomputable def c_config_take : Orc := ent i_config_take [true] 0 (sp fa_config_take ha_config_take fr_config_take hr_config_take G_config_take out_config_take)
theorem ok_config_take : OrcOk PR c_config_take := fnT okO_config_take mixed p_config_take (by kernel_rfl) (by kernel_rfl) (L := L_config_take) (kp := false) (by kernel_rfl) (inn := inn_config_take) (out := out_config_take) (fun _ _ => rfl) (loopsL (l := [((lpN f_config_take 0), ls_config_take_0)]) (by kernel_rfl) ⟨lp_config_take_0, trivial⟩) (fun x y => by kernel_rfl)
noncomputable def O_annealref24_take : Orc := orn
theorem okO_annealref24_take : OrcOk PR O_annealref24_take := (orn_ok _)
abbrev fa_annealref24_take : Fm := (.pair (.si .u8) (.pair (.i .i64) .unit))
abbrev ha_annealref24_take : List BF := []
abbrev fr_annealref24_take : Fm := (.i .u64)
abbrev hr_annealref24_take : List BF := []
abbrev ff_annealref24_take_0 : Fm := (.pair (.si .u8) (.us 4 (.pair (.i .u64) (.pair (.i .i64) (.us 15 .unit)))))
abbrev hf_annealref24_take_0 : List BF := []
abbrev X_annealref24_take_0 : Xs := (.one (.exit 0) [5] (.us 5 (.pair (.i .u64) (.us 16 .unit))) [])
abbrev S_annealref24_take_0 : Type := T ff_annealref24_take_0 × TH hf_annealref24_take_0
abbrev E_annealref24_take_0 : Type := TX X_annealref24_take_0
noncomputable def LB_annealref24_take_0 : Lps := L0
noncomputable def st_annealref24_take_0 : StepT S_annealref24_take_0 E_annealref24_take_0 := fun R v kn ko =>
  let x0 : List Int := v.1.1
  let x1 : Int := v.1.2.1
  let x2 : Int := v.1.2.2.1
  bif (decide (x2 ≥ (0:Int))) then
    bif (decide (((0:Int) ≤ x2) ∧ (x2 < (((List.length x0) : Nat) : Int)))) then
      (kn (((List.take (List.length x0) x0), ((bits .or .u64 (IntKind.wrap .u64 (x1 * (256:Int))) (IntKind.wrap .u64 (List.getD x0 (Int.toNat x2) (0:Int)))), ((IntKind.wrap .i64 (x2 - (1:Int))), ()))), ()))
    else
      none
  else
    (ko ((x1, ()), ()))
noncomputable def ls_annealref24_take_0 : St → LTr := (lsum ff_annealref24_take_0 hf_annealref24_take_0 X_annealref24_take_0 Prod.mk id st_annealref24_take_0 (hd [] [] [0, 5, 6] 0))
theorem lp_annealref24_take_0 : LoopOk PR 0 (lpN f_annealref24_take 0) ls_annealref24_take_0 := loopT okO_annealref24_take mixed (L := LB_annealref24_take_0) (d := 1) (bs := []) (ks := [0, 5, 6]) (loopsL (l := []) (by kernel_rfl) trivial) (by kernel_rfl) (inS := Prod.mk) (outS := id) (fun _ _ => rfl) (inX := id) (outX := id) (fun _ => rfl) (fun v R kn ko => by kernel_rfl) (hd_wk [] [] [0, 5, 6] 0)
noncomputable def L_annealref24_take : Lps := (lpB 4 (.by_ ls_annealref24_take_0) L0)
def inn_annealref24_take : T fr_annealref24_take → TH hr_annealref24_take → Int := (fun z w => z)
def out_annealref24_take : Int → T fr_annealref24_take × TH hr_annealref24_take := fun r => (r, ())
noncomputable def F_annealref24_take (a0 : List Int) (a1 : Int) : Option (Int) :=
  ((lim st_annealref24_take_0 (((List.take (List.length a0) a0), ((0:Int), ((IntKind.wrap .i64 (a1 - (1:Int))), ()))), ()))).bind fun r0 =>
  (some r0.1.1)
noncomputable def G_annealref24_take : T fa_annealref24_take → TH ha_annealref24_take → Option (Int) := fun x y => F_annealref24_take x.1 x.2.1
noncomputable def c_annealref24_take : Orc := ent i_annealref24_take [] 0 (sp fa_annealref24_take ha_annealref24_take fr_annealref24_take hr_annealref24_take G_annealref24_take out_annealref24_take)
theorem ok_annealref24_take : OrcOk PR c_annealref24_take := fnT okO_annealref24_take mixed p_annealref24_take (by kernel_rfl) (by kernel_rfl) (L := L_annealref24_take) (kp := false) (by kernel_rfl) (inn := inn_annealref24_take) (out := out_annealref24_take) (fun _ _ => rfl) (loopsL (l := [((lpN f_annealref24_take 0), ls_annealref24_take_0)]) (by kernel_rfl) ⟨lp_annealref24_take_0, trivial⟩) (fun x y => by kernel_rfl)
end Go.Proofs.Ytcpicekmnkjceaa.VI

namespace Go.Proofs.Ytcpicekmnkjceaa.VI
set_option linter.unusedVariables false
set_option linter.unusedSimpArgs false
set_option linter.unusedSimpArgs false
set_option linter.unusedVariables false
set_option maxRecDepth 100000
set_option maxHeartbeats 4000000
def leN : Nat → List Int → Int
  | 0, _ => 0
  | k + 1, xs => leN k xs + xs.getD k 0 * 2 ^ (8 * k)
def byt (xs : List Int) : Prop := ∀ i, 0 ≤ xs.getD i 0 ∧ xs.getD i 0 < 256
theorem byt_drop {xs : List Int} (h : byt xs) (n : Nat) : byt (xs.drop n) := fun i => by
  have := h (n + i)
  simpa [List.getD_eq_getElem?_getD, List.getElem?_drop] using this
theorem p8 (k : Nat) : (2 : Int) ^ (8 * (k + 1)) = 256 * 2 ^ (8 * k) := by
  rw [show 8 * (k + 1) = 8 * k + 8 by omega, Int.pow_add, Int.mul_comm]; rfl
theorem p8pos (k : Nat) : (0 : Int) < 2 ^ (8 * k) := Int.pow_pos (by decide)
theorem leN_bd {xs : List Int} (h : byt xs) : ∀ k, 0 ≤ leN k xs ∧ leN k xs < 2 ^ (8 * k)
  | 0 => by simp [leN]
  | k + 1 => by
    have ih := leN_bd h k
    have hp := p8pos k
    have hx := h k
    simp only [leN]
    rw [p8]
    have h1 : xs.getD k 0 * 2 ^ (8 * k) ≤ 255 * 2 ^ (8 * k) := Int.mul_le_mul_of_nonneg_right (by omega) (by omega)
    have h2 : 0 ≤ xs.getD k 0 * 2 ^ (8 * k) := Int.mul_nonneg hx.1 (by omega)
    omega
theorem leN_cons (xs : List Int) : ∀ m, leN (m + 1) xs = xs.getD 0 0 + 256 * leN m (xs.drop 1)
  | 0 => by simp [leN]
  | m + 1 => by
    have ih := leN_cons xs m
    rw [leN, ih]
    simp only [leN, p8]
    have : (xs.drop 1).getD m 0 = xs.getD (m + 1) 0 := by
      simp [List.getD_eq_getElem?_getD, List.getElem?_drop, Nat.add_comm]
    rw [this, Int.mul_add, ← Int.mul_assoc, ← Int.mul_assoc, Int.mul_comm 256 (xs.getD (m + 1) 0), Int.add_assoc]
theorem p64 {k : Nat} (h : k ≤ 8) : (2 : Int) ^ (8 * k) ≤ 18446744073709551616 := by
  have : (2 : Nat) ^ (8 * k) ≤ 2 ^ 64 := Nat.pow_le_pow_right (by omega) (by omega)
  have h3 : ((2 ^ (8 * k) : Nat) : Int) ≤ ((2 ^ 64 : Nat) : Int) := by exact_mod_cast this
  simpa using h3
theorem leN_64 {xs : List Int} (h : byt xs) {k : Nat} (hk : k ≤ 8) : 0 ≤ leN k xs ∧ leN k xs < 18446744073709551616 := by
  have := leN_bd h k; have := p64 hk; omega
theorem take_eq {xs : List Int} (h : byt xs) {k : Nat} (hk : k ≤ 8) (hl : k ≤ xs.length) (hL : xs.length ≤ 1073741824) : F_config_take (k : Int) (xs, ()) = some (leN k xs, (xs.drop k, ()), ()) := by
  unfold F_config_take
  have c0 : ((0 : Int) ≤ 0 ∧ 0 ≤ (k : Int) ∧ (k : Int) ≤ (xs.length : Int)) = True := by simp; omega
  simp only [c0, decide_true, cond_true, Int.toNat_natCast, Nat.sub_zero, List.drop_zero, List.take_take, Nat.min_self, List.take_length]
  have key := lim_seq (st := st_config_take_0) (fun i => (((k : Int), (leN i xs, (xs.take k, ((k : Int), ((i : Int), ()))))), ((xs, ()), ()))) (b := (((k : Int), (leN k xs, ())), ((xs, ()), ()))) k (fun i hi R kn ko => by
    have hlen : (xs.take k).length = k := by simp; omega
    have w1 : IntKind.i64.wrap ((i : Int) + 1) = ((i + 1 : Nat) : Int) := by rw [wi64 (by omega)]; omega
    have w2 : IntKind.i64.wrap (8 * (i : Int)) = ((8 * i : Nat) : Int) := by rw [wi64 (by omega)]; omega
    have w3 : IntKind.u64.wrap ((8 * i : Nat) : Int) = ((8 * i : Nat) : Int) := wu64 (by omega)
    have hm : Min.min (8 * i) 64 = 8 * i := by omega
    have hg : (xs.take k).getD i 0 = xs.getD i 0 := by simp [List.getD_eq_getElem?_getD, List.getElem?_take, hi]
    have hx := h i
    have hb := leN_bd h i
    have hb2 := leN_bd h (i + 1)
    have hp := p64 (k := i + 1) (by omega)
    simp only [leN] at hb2
    have hp0 := p8pos i
    have h2 : 0 ≤ xs.getD i 0 * 2 ^ (8 * i) := Int.mul_nonneg hx.1 (by omega)
    have w4 : IntKind.u64.wrap (xs.getD i 0) = xs.getD i 0 := wu64 (by omega)
    have w5 : IntKind.u64.wrap (xs.getD i 0 * 2 ^ (8 * i)) = xs.getD i 0 * 2 ^ (8 * i) := wu64 (by omega)
    have ho : bits .or .u64 (leN i xs) (xs.getD i 0 * 2 ^ (8 * i)) = leN i xs + xs.getD i 0 * 2 ^ (8 * i) := by
      rw [or_comm64, or_join64 _ _ (8 * i) h2 (by omega) hb.1 hb.2 (by omega) (Int.mul_emod_left _ _)]; omega
    simp only [st_config_take_0, ltI hi, natnn, and_self, hlen, decide_true, cond_true, List.take_length, Int.toNat_natCast, w1, w2, w3, hm, hg, w4, w5, ho, leN]
    rw [show List.take k (List.take k xs) = List.take k xs by rw [List.take_take, Nat.min_self]]) (fun R kn ko => by
    simp only [st_config_take_0, ltI', decide_false, cond_false, List.take_length])
  simp only [Int.natCast_zero, leN] at key
  rw [key]
  have c1 : ((0 : Int) ≤ (k : Int) ∧ (k : Int) ≤ (xs.length : Int) ∧ (xs.length : Int) ≤ (xs.length : Int)) = True := by simp; omega
  simp only [Option.bind_some, c1, decide_true, cond_true, Int.toNat_natCast, List.take_take, Nat.min_self]
  rw [List.take_of_length_le (by simp)]
theorem rtake_eq {xs : List Int} (h : byt xs) {k : Nat} (hk : k ≤ 8) (hl : k ≤ xs.length) (hL : xs.length ≤ 1073741824) : F_annealref24_take xs (k : Int) = some (leN k xs) := by
  unfold F_annealref24_take
  have w0 : IntKind.i64.wrap ((k : Int) - 1) = (k : Int) - 1 := wi64 (by omega)
  simp only [List.take_length, w0]
  have key := lim_seq (st := st_annealref24_take_0) (fun t => ((xs, (leN t (xs.drop (k - t)), ((k : Int) - 1 - (t : Int), ()))), ())) (b := ((leN k xs, ()), ())) k (fun t ht R kn ko => by
    have hi : k - 1 - t < xs.length := by omega
    have e1 : ((k : Int) - 1 - (t : Int)) = ((k - 1 - t : Nat) : Int) := by omega
    have w1 : IntKind.i64.wrap (((k - 1 - t : Nat) : Int) - 1) = (k : Int) - 1 - ((t + 1 : Nat) : Int) := by rw [wi64 (by omega)]; omega
    have hc := leN_cons (xs.drop (k - (t + 1))) t
    have hd : (xs.drop (k - (t + 1))).drop 1 = xs.drop (k - t) := by rw [List.drop_drop]; congr 1; omega
    have hg : (xs.drop (k - (t + 1))).getD 0 0 = xs.getD (k - 1 - t) 0 := by
      simp only [List.getD_eq_getElem?_getD, List.getElem?_drop]; congr 2; omega
    rw [hd, hg] at hc
    have hx := h (k - 1 - t)
    have hb := leN_bd (byt_drop h (k - t)) t
    have hb2 := leN_64 (byt_drop h (k - (t + 1))) (k := t + 1) (by omega)
    rw [hc] at hb2
    have w4 : IntKind.u64.wrap (xs.getD (k - 1 - t) 0) = xs.getD (k - 1 - t) 0 := wu64 (by omega)
    have w5 : IntKind.u64.wrap (leN t (xs.drop (k - t)) * 256) = leN t (xs.drop (k - t)) * 256 := wu64 (by omega)
    have ho : bits .or .u64 (leN t (xs.drop (k - t)) * 256) (xs.getD (k - 1 - t) 0) = leN t (xs.drop (k - t)) * 256 + xs.getD (k - 1 - t) 0 :=
      or_join64 _ _ 8 (by omega) (by omega) hx.1 (by have := hx.2; simpa using this) (by omega) (by show _ % 256 = 0; omega)
    have hge : (((k - 1 - t : Nat) : Int) ≥ 0) = True := by simp
    simp only [st_annealref24_take_0, e1, hge, ltI hi, natnn, and_self, decide_true, cond_true, List.take_length, Int.toNat_natCast, w1, w4, w5, ho, hc]
    rw [Int.mul_comm, Int.add_comm]) (fun R kn ko => by
    have e1 : ((k : Int) - 1 - (k : Int)) = -1 := by omega
    have hge : ((-1 : Int) ≥ 0) = False := by simp
    simp only [st_annealref24_take_0, e1, hge, decide_false, cond_false, Nat.sub_self, List.drop_zero])
  simp only [Int.natCast_zero, leN, Int.sub_zero] at key
  rw [key]; rfl
end Go.Proofs.Ytcpicekmnkjceaa.VI

namespace Go.Proofs.Ytcpicekmnkjceaa.VI
set_option linter.unusedVariables false
set_option linter.unusedSimpArgs false
set_option maxRecDepth 100000
set_option linter.unusedSimpArgs false
set_option linter.unusedVariables false
noncomputable def O_config_fill : Orc := c_config_take
theorem okO_config_fill : OrcOk PR O_config_fill := ok_config_take
abbrev fa_config_fill : Fm := (.cst (.ref 0 1 0) (.pair (.si .u8) .unit))
abbrev ha_config_fill : List BF := [(.list 1 y_api_Config true (.pair (.own 1 1 0 1) (.pair (.i .i64) (.pair (.i .i64) (.pair (.i .i64) (.pair (.i .i64) (.pair (.i .i64) (.pair (.i .u32) (.pair (.i .u32) (.pair (.i .u32) (.pair (.i .u32) (.pair (.i .u32) (.pair (.i .u32) (.pair (.i .i64) (.pair (.i .i64) (.pair (.i .i64) (.pair (.i .i64) (.pair (.i .u64) (.pair (.i .u32) (.pair .b (.pair (.i .i64) (.pair (.i .i64) (.pair (.i .i64) (.pair (.i .i64) (.pair (.i .i64) (.pair (.i .i64) (.pair (.i .i64) .unit))))))))))))))))))))))))))), (.ints 1 y_int true .i64)]
abbrev fr_config_fill : Fm := (.tup .unit)
abbrev hr_config_fill : List BF := [(.list 1 y_api_Config true (.pair (.own 1 1 0 1) (.pair (.i .i64) (.pair (.i .i64) (.pair (.i .i64) (.pair (.i .i64) (.pair (.i .i64) (.pair (.i .u32) (.pair (.i .u32) (.pair (.i .u32) (.pair (.i .u32) (.pair (.i .u32) (.pair (.i .u32) (.pair (.i .i64) (.pair (.i .i64) (.pair (.i .i64) (.pair (.i .i64) (.pair (.i .u64) (.pair (.i .u32) (.pair .b (.pair (.i .i64) (.pair (.i .i64) (.pair (.i .i64) (.pair (.i .i64) (.pair (.i .i64) (.pair (.i .i64) (.pair (.i .i64) .unit))))))))))))))))))))))))))), (.ints 1 y_int true .i64)]
noncomputable def L_config_fill : Lps := (lpB 21 (.un 6 [0, 3, 124, 125, 126]) (lpB 15 (.un 5 [0, 3, 88, 89, 90]) (lpB 10 (.un 8 [0, 3, 65, 66, 67]) (lpB 4 (.un 7 [0, 3, 4, 28, 29, 30]) L0))))
def inn_config_fill : T fr_config_fill → TH hr_config_fill → (Unit) × ((Nat × Int × Int × Int × Int × Int × Int × Int × Int × Int × Int × Int × Int × Int × Int × Int × Int × Int × Bool × Int × Int × Int × Int × Int × Int × Int × Unit) × List Int × Unit) := Prod.mk
def out_config_fill : (Unit) × ((Nat × Int × Int × Int × Int × Int × Int × Int × Int × Int × Int × Int × Int × Int × Int × Int × Int × Int × Bool × Int × Int × Int × Int × Int × Int × Int × Unit) × List Int × Unit) → T fr_config_fill × TH hr_config_fill := id
noncomputable def F_config_fill (a0 : List Int) (a1 : Nat × Int × Int × Int × Int × Int × Int × Int × Int × Int × Int × Int × Int × Int × Int × Int × Int × Int × Bool × Int × Int × Int × Int × Int × Int × Int × Unit) (a2 : List Int) : Option ((Unit) × ((Nat × Int × Int × Int × Int × Int × Int × Int × Int × Int × Int × Int × Int × Int × Int × Int × Int × Int × Bool × Int × Int × Int × Int × Int × Int × Int × Unit) × List Int × Unit)) :=
  ((F_config_take (1:Int) ((List.take (List.length a0) a0), ()))).bind fun r0 =>
  let x1 : List Int := r0.2.1.1
  ((F_config_take (1:Int) ((List.take (List.length x1) x1), ()))).bind fun r2 =>
  let x3 : List Int := r2.2.1.1
  ((F_config_take (1:Int) ((List.take (List.length x3) x3), ()))).bind fun r4 =>
  let x5 : List Int := r4.2.1.1
  ((F_config_take (1:Int) ((List.take (List.length x5) x5), ()))).bind fun r6 =>
  let x7 : List Int := r6.2.1.1
  ((F_config_take (1:Int) ((List.take (List.length x7) x7), ()))).bind fun r8 =>
  let x9 : List Int := r8.2.1.1
  ((F_config_take (1:Int) ((List.take (List.length x9) x9), ()))).bind fun r10 =>
  let x11 : List Int := r10.2.1.1
  ((F_config_take (4:Int) ((List.take (List.length x11) x11), ()))).bind fun r12 =>
  let x13 : List Int := r12.2.1.1
  ((F_config_take (4:Int) ((List.take (List.length x13) x13), ()))).bind fun r14 =>
  let x15 : List Int := r14.2.1.1
  ((F_config_take (4:Int) ((List.take (List.length x15) x15), ()))).bind fun r16 =>
  let x17 : List Int := r16.2.1.1
  ((F_config_take (4:Int) ((List.take (List.length x17) x17), ()))).bind fun r18 =>
  let x19 : List Int := r18.2.1.1
  ((F_config_take (4:Int) ((List.take (List.length x19) x19), ()))).bind fun r20 =>
  let x21 : List Int := r20.2.1.1
  ((F_config_take (4:Int) ((List.take (List.length x21) x21), ()))).bind fun r22 =>
  let x23 : List Int := r22.2.1.1
  ((F_config_take (4:Int) ((List.take (List.length x23) x23), ()))).bind fun r24 =>
  let x25 : List Int := r24.2.1.1
  ((F_config_take (4:Int) ((List.take (List.length x25) x25), ()))).bind fun r26 =>
  let x27 : List Int := r26.2.1.1
  ((F_config_take (4:Int) ((List.take (List.length x27) x27), ()))).bind fun r28 =>
  let x29 : List Int := r28.2.1.1
  ((F_config_take (4:Int) ((List.take (List.length x29) x29), ()))).bind fun r30 =>
  let x31 : List Int := r30.2.1.1
  ((F_config_take (4:Int) ((List.take (List.length x31) x31), ()))).bind fun r32 =>
  let x33 : List Int := r32.2.1.1
  ((F_config_take (2:Int) ((List.take (List.length x33) x33), ()))).bind fun r34 =>
  let x35 : List Int := r34.2.1.1
  ((F_config_take (2:Int) ((List.take (List.length x35) x35), ()))).bind fun r36 =>
  let x37 : List Int := r36.2.1.1
  ((F_config_take (1:Int) ((List.take (List.length x37) x37), ()))).bind fun r38 =>
  let x39 : List Int := r38.2.1.1
  ((F_config_take (1:Int) ((List.take (List.length x39) x39), ()))).bind fun r40 =>
  let x41 : List Int := r40.2.1.1
  ((F_config_take (1:Int) ((List.take (List.length x41) x41), ()))).bind fun r42 =>
  let x43 : List Int := r42.2.1.1
  ((F_config_take (1:Int) ((List.take (List.length x43) x43), ()))).bind fun r44 =>
  let x45 : List Int := r44.2.1.1
  ((F_config_take (1:Int) ((List.take (List.length x45) x45), ()))).bind fun r46 =>
  let x47 : List Int := r46.2.1.1
  ((F_config_take (8:Int) ((List.take (List.length x47) x47), ()))).bind fun r48 =>
  (some ((), ((a1.1, ((IntKind.wrap .i64 r0.1), ((IntKind.wrap .i64 r2.1), ((IntKind.wrap .i64 r4.1), ((IntKind.wrap .i64 r6.1), ((IntKind.wrap .i64 r8.1), ((IntKind.wrap .u32 r12.1), ((IntKind.wrap .u32 r14.1), ((IntKind.wrap .u32 r16.1), ((IntKind.wrap .u32 r18.1), ((IntKind.wrap .u32 r20.1), ((IntKind.wrap .u32 r22.1), ((IntKind.wrap .i64 r26.1), ((IntKind.wrap .i64 r28.1), ((IntKind.wrap .i64 r34.1), ((IntKind.wrap .i64 r36.1), (r48.1, ((IntKind.wrap .u32 r24.1), (((List.getD (List.set [(0:Int)] (0:Nat) (IntKind.wrap .i64 r10.1)) (0:Nat) (0:Int)) != (0:Int)), ((IntKind.wrap .i64 r38.1), ((IntKind.wrap .i64 r40.1), ((IntKind.wrap .i64 r42.1), ((IntKind.wrap .i64 r44.1), ((IntKind.wrap .i64 r46.1), ((IntKind.wrap .i64 r30.1), ((IntKind.wrap .i64 r32.1), ())))))))))))))))))))))))))), (a2, ()))))
noncomputable def G_config_fill : T fa_config_fill → TH ha_config_fill → Option ((Unit) × ((Nat × Int × Int × Int × Int × Int × Int × Int × Int × Int × Int × Int × Int × Int × Int × Int × Int × Int × Bool × Int × Int × Int × Int × Int × Int × Int × Unit) × List Int × Unit)) := fun x y => F_config_fill x.1 y.1 y.2.1
noncomputable def c_config_fill : Orc := ent i_config_fill [true] 0 (sp fa_config_fill ha_config_fill fr_config_fill hr_config_fill G_config_fill out_config_fill)
theorem ok_config_fill : OrcOk PR c_config_fill := fnT okO_config_fill mixed p_config_fill (by kernel_rfl) (by kernel_rfl) (L := L_config_fill) (kp := false) (by kernel_rfl) (inn := inn_config_fill) (out := out_config_fill) (fun _ _ => rfl) (loopsL (l := []) (by kernel_rfl) trivial) (fun x y => by kernel_rfl)
noncomputable def O_config_Read : Orc := (orm c_config_take (orm c_config_fill c_config_Put))
theorem okO_config_Read : OrcOk PR O_config_Read := (orm_ok ok_config_take (orm_ok ok_config_fill ok_config_Put))
abbrev fa_config_Read : Fm := (.pair (.si .u8) .unit)
abbrev ha_config_Read : List BF := []
abbrev fr_config_Read : Fm := (.tup (.pair (.agg (.pair (.si .i64) (.pair (.i .i64) (.pair (.i .i64) (.pair (.i .i64) (.pair (.i .i64) (.pair (.i .i64) (.pair (.i .u32) (.pair (.i .u32) (.pair (.i .u32) (.pair (.i .u32) (.pair (.i .u32) (.pair (.i .u32) (.pair (.i .i64) (.pair (.i .i64) (.pair (.i .i64) (.pair (.i .i64) (.pair (.i .u64) (.pair (.i .u32) (.pair .b (.pair (.i .i64) (.pair (.i .i64) (.pair (.i .i64) (.pair (.i .i64) (.pair (.i .i64) (.pair (.i .i64) (.pair (.i .i64) .unit))))))))))))))))))))))))))) (.pair (.i .i64) .unit)))
abbrev hr_config_Read : List BF := []
abbrev ff_config_Read_0 : Fm := (.pair (.si .u8) (.us 1 (.cst (.ref 0 1 0) (.us 3 (.cst (.ref 1 1 0) (.cst (.ref 2 1 0) (.us 33 (.pair (.i .i64) (.pair (.i .i64) (.us 27 .unit))))))))))
abbrev hf_config_Read_0 : List BF := [(.list 1 y_api_Config true (.cst .nils (.pair (.i .i64) (.pair (.i .i64) (.pair (.i .i64) (.pair (.i .i64) (.pair (.i .i64) (.pair (.i .u32) (.pair (.i .u32) (.pair (.i .u32) (.pair (.i .u32) (.pair (.i .u32) (.pair (.i .u32) (.pair (.i .i64) (.pair (.i .i64) (.pair (.i .i64) (.pair (.i .i64) (.pair (.i .u64) (.pair (.i .u32) (.pair .b (.pair (.i .i64) (.pair (.i .i64) (.pair (.i .i64) (.pair (.i .i64) (.pair (.i .i64) (.pair (.i .i64) (.pair (.i .i64) .unit))))))))))))))))))))))))))), (.list 1 y_api_Config true (.pair (.own 3 1 0 1) (.pair (.i .i64) (.pair (.i .i64) (.pair (.i .i64) (.pair (.i .i64) (.pair (.i .i64) (.pair (.i .u32) (.pair (.i .u32) (.pair (.i .u32) (.pair (.i .u32) (.pair (.i .u32) (.pair (.i .u32) (.pair (.i .i64) (.pair (.i .i64) (.pair (.i .i64) (.pair (.i .i64) (.pair (.i .u64) (.pair (.i .u32) (.pair .b (.pair (.i .i64) (.pair (.i .i64) (.pair (.i .i64) (.pair (.i .i64) (.pair (.i .i64) (.pair (.i .i64) (.pair (.i .i64) .unit))))))))))))))))))))))))))), (.list 1 y_LJuint8 true (.pair (.si .u8) .unit)), (.ints 1 y_int true .i64)]
abbrev X_config_Read_0 : Xs := (.one (.exit 0) [0, 2, 6, 7] (.pair (.si .u8) (.us 1 (.cst (.ref 0 1 0) (.us 3 (.cst (.ref 1 1 0) (.cst (.ref 2 1 0) (.us 62 .unit))))))) [(.list 1 y_api_Config true (.cst .nils (.pair (.i .i64) (.pair (.i .i64) (.pair (.i .i64) (.pair (.i .i64) (.pair (.i .i64) (.pair (.i .u32) (.pair (.i .u32) (.pair (.i .u32) (.pair (.i .u32) (.pair (.i .u32) (.pair (.i .u32) (.pair (.i .i64) (.pair (.i .i64) (.pair (.i .i64) (.pair (.i .i64) (.pair (.i .u64) (.pair (.i .u32) (.pair .b (.pair (.i .i64) (.pair (.i .i64) (.pair (.i .i64) (.pair (.i .i64) (.pair (.i .i64) (.pair (.i .i64) (.pair (.i .i64) .unit))))))))))))))))))))))))))), (.list 1 y_api_Config true (.pair (.own 3 1 0 1) (.pair (.i .i64) (.pair (.i .i64) (.pair (.i .i64) (.pair (.i .i64) (.pair (.i .i64) (.pair (.i .u32) (.pair (.i .u32) (.pair (.i .u32) (.pair (.i .u32) (.pair (.i .u32) (.pair (.i .u32) (.pair (.i .i64) (.pair (.i .i64) (.pair (.i .i64) (.pair (.i .i64) (.pair (.i .u64) (.pair (.i .u32) (.pair .b (.pair (.i .i64) (.pair (.i .i64) (.pair (.i .i64) (.pair (.i .i64) (.pair (.i .i64) (.pair (.i .i64) (.pair (.i .i64) .unit))))))))))))))))))))))))))), (.list 1 y_LJuint8 true (.pair (.si .u8) .unit)), (.ints 1 y_int true .i64)])
abbrev S_config_Read_0 : Type := T ff_config_Read_0 × TH hf_config_Read_0
abbrev E_config_Read_0 : Type := TX X_config_Read_0
noncomputable def LB_config_Read_0 : Lps := L0
noncomputable def st_config_Read_0 : StepT S_config_Read_0 E_config_Read_0 := fun R v kn ko =>
  let x0 : List Int := v.2.2.2.1.1
  let x1 : List Int := v.1.1
  let x2 : List Int := (List.take (List.length x1) x1)
  let x3 : Nat := v.2.2.1.1
  bif (decide (v.1.2.2.1 < v.1.2.1)) then
    ((F_config_take (2:Int) ((List.take (List.length x0) x0), ()))).bind fun r4 =>
    let x5 : List Int := r4.2.1.1
    bif (decide ((x3 + (1:Nat)) ≤ (1073741824:Nat))) then
      (kn ((x2, (v.1.2.1, ((IntKind.wrap .i64 (v.1.2.2.1 + (1:Int))), ()))), (v.2.1, (((x3 + (1:Nat)), v.2.2.1.2), (((List.take (List.length x5) x5), ()), (((List.take x3 v.2.2.2.2.1) ++ [(IntKind.wrap .i64 r4.1)]), ()))))))
    else
      none
  else
    (ko ((x2, ()), (v.2.1, (v.2.2.1, (((List.take (List.length x0) x0), ()), v.2.2.2.2)))))
noncomputable def ls_config_Read_0 : St → LTr := (lsum ff_config_Read_0 hf_config_Read_0 X_config_Read_0 Prod.mk id st_config_Read_0 (hd [(.via 6 0, y_int, 0, .ints .i64)] [] [0, 2, 6, 7, 41, 42] 0))
theorem lp_config_Read_0 : LoopOk PR 0 (lpN f_config_Read 0) ls_config_Read_0 := loopT okO_config_Read mixed (L := LB_config_Read_0) (d := 1) (bs := []) (ks := [0, 2, 6, 7, 41, 42]) (loopsL (l := []) (by kernel_rfl) trivial) (by kernel_rfl) (inS := Prod.mk) (outS := id) (fun _ _ => rfl) (inX := id) (outX := id) (fun _ => rfl) (fun v R kn ko => by kernel_rfl) (hd_wk [(.via 6 0, y_int, 0, .ints .i64)] [] [0, 2, 6, 7, 41, 42] 0)
noncomputable def L_config_Read : Lps := (lpB 11 (.by_ ls_config_Read_0) L0)
def inn_config_Read : T fr_config_Read → TH hr_config_Read → (List Int × Int × Int × Int × Int × Int × Int × Int × Int × Int × Int × Int × Int × Int × Int × Int × Int × Int × Bool × Int × Int × Int × Int × Int × Int × Int × Unit) × Int × Unit := (fun z w => z)
def out_config_Read : (List Int × Int × Int × Int × Int × Int × Int × Int × Int × Int × Int × Int × Int × Int × Int × Int × Int × Int × Bool × Int × Int × Int × Int × Int × Int × Int × Unit) × Int × Unit → T fr_config_Read × TH hr_config_Read := fun r => (r, ())
noncomputable def F_config_Read (a0 : List Int) : Option ((List Int × Int × Int × Int × Int × Int × Int × Int × Int × Int × Int × Int × Int × Int × Int × Int × Int × Int × Bool × Int × Int × Int × Int × Int × Int × Int × Unit) × Int × Unit) :=
  let x0 : Int := (IntKind.wrap .i64 (List.getD a0 (8:Nat) (0:Int)))
  let x1 : Nat := ((Int.toNat (((List.length a0) : Nat) : Int)) - (9:Nat))
  bif (decide ((((List.length a0) : Nat) : Int) < (9:Int))) then
    (some (([], ((0:Int), ((0:Int), ((0:Int), ((0:Int), ((0:Int), ((0:Int), ((0:Int), ((0:Int), ((0:Int), ((0:Int), ((0:Int), ((0:Int), ((0:Int), ((0:Int), ((0:Int), ((0:Int), ((0:Int), (false, ((0:Int), ((0:Int), ((0:Int), ((0:Int), ((0:Int), ((0:Int), ((0:Int), ())))))))))))))))))))))))))), ((20:Int), ())))
  else
    bif (decide (((0:Int) ≤ (0:Int)) ∧ (((0:Int) ≤ (8:Int)) ∧ ((8:Int) ≤ (((List.length a0) : Nat) : Int))))) then
      bif (!((List.map b8 (List.take (8:Nat) (List.take (8:Nat) (List.drop (0:Nat) a0)))) == [(65:Int), (78:Int), (78:Int), (69:Int), (65:Int), (76:Int), (49:Int), (0:Int)])) then
        (some (([], ((0:Int), ((0:Int), ((0:Int), ((0:Int), ((0:Int), ((0:Int), ((0:Int), ((0:Int), ((0:Int), ((0:Int), ((0:Int), ((0:Int), ((0:Int), ((0:Int), ((0:Int), ((0:Int), ((0:Int), (false, ((0:Int), ((0:Int), ((0:Int), ((0:Int), ((0:Int), ((0:Int), ((0:Int), ())))))))))))))))))))))))))), ((20:Int), ())))
      else
        bif (decide (((0:Int) ≤ (8:Int)) ∧ ((8:Int) < (((List.length a0) : Nat) : Int)))) then
          bif ((((List.length a0) : Nat) : Int) != (IntKind.wrap .i64 ((IntKind.wrap .i64 ((IntKind.wrap .i64 ((IntKind.wrap .i64 ((IntKind.wrap .i64 ((IntKind.wrap .i64 ((9:Int) + (IntKind.wrap .i64 ((2:Int) * x0)))) + (6:Int))) + (44:Int))) + (4:Int))) + (5:Int))) + (8:Int)))) then
            (some (([], ((0:Int), ((0:Int), ((0:Int), ((0:Int), ((0:Int), ((0:Int), ((0:Int), ((0:Int), ((0:Int), ((0:Int), ((0:Int), ((0:Int), ((0:Int), ((0:Int), ((0:Int), ((0:Int), ((0:Int), (false, ((0:Int), ((0:Int), ((0:Int), ((0:Int), ((0:Int), ((0:Int), ((0:Int), ())))))))))))))))))))))))))), ((20:Int), ())))
          else
            bif (decide (((0:Int) ≤ (9:Int)) ∧ (((9:Int) ≤ (((List.length a0) : Nat) : Int)) ∧ ((((List.length a0) : Nat) : Int) ≤ (((List.length a0) : Nat) : Int))))) then
              ((lim st_config_Read_0 (((List.take (List.length a0) a0), (x0, ((0:Int), ()))), (((0:Int), ((0:Int), ((0:Int), ((0:Int), ((0:Int), ((0:Int), ((0:Int), ((0:Int), ((0:Int), ((0:Int), ((0:Int), ((0:Int), ((0:Int), ((0:Int), ((0:Int), ((0:Int), ((0:Int), (false, ((0:Int), ((0:Int), ((0:Int), ((0:Int), ((0:Int), ((0:Int), ((0:Int), ()))))))))))))))))))))))))), (((0:Nat), ((0:Int), ((0:Int), ((0:Int), ((0:Int), ((0:Int), ((0:Int), ((0:Int), ((0:Int), ((0:Int), ((0:Int), ((0:Int), ((0:Int), ((0:Int), ((0:Int), ((0:Int), ((0:Int), ((0:Int), (false, ((0:Int), ((0:Int), ((0:Int), ((0:Int), ((0:Int), ((0:Int), ((0:Int), ())))))))))))))))))))))))))), (((List.take x1 (List.take x1 (List.drop (9:Nat) a0))), ()), ([], ()))))))).bind fun r2 =>
              let x3 : List Int := r2.2.2.2.1.1
              let x4 : List Int := r2.1.1
              ((F_config_fill (List.take (List.length x3) x3) r2.2.2.1 r2.2.2.2.2.1)).bind fun r5 =>
              ((F_config_Put ((List.take r5.2.1.1 (List.drop (0:Nat) r5.2.2.1)), r5.2.1.2))).bind fun r6 =>
              bif (r6.2.1 != (0:Int)) then
                (some (([], ((0:Int), ((0:Int), ((0:Int), ((0:Int), ((0:Int), ((0:Int), ((0:Int), ((0:Int), ((0:Int), ((0:Int), ((0:Int), ((0:Int), ((0:Int), ((0:Int), ((0:Int), ((0:Int), ((0:Int), (false, ((0:Int), ((0:Int), ((0:Int), ((0:Int), ((0:Int), ((0:Int), ((0:Int), ())))))))))))))))))))))))))), ((20:Int), ())))
              else
                bif (!((List.map b8 (List.take (List.length r6.1) r6.1)) == (List.map b8 (List.take (List.length x4) x4)))) then
                  (some (([], ((0:Int), ((0:Int), ((0:Int), ((0:Int), ((0:Int), ((0:Int), ((0:Int), ((0:Int), ((0:Int), ((0:Int), ((0:Int), ((0:Int), ((0:Int), ((0:Int), ((0:Int), ((0:Int), ((0:Int), (false, ((0:Int), ((0:Int), ((0:Int), ((0:Int), ((0:Int), ((0:Int), ((0:Int), ())))))))))))))))))))))))))), ((20:Int), ())))
                else
                  (some (((List.take r5.2.1.1 (List.drop (0:Nat) r5.2.2.1)), r5.2.1.2), ((0:Int), ())))
            else
              none
        else
          none
    else
      none
noncomputable def G_config_Read : T fa_config_Read → TH ha_config_Read → Option ((List Int × Int × Int × Int × Int × Int × Int × Int × Int × Int × Int × Int × Int × Int × Int × Int × Int × Int × Bool × Int × Int × Int × Int × Int × Int × Int × Unit) × Int × Unit) := fun x y => F_config_Read x.1
noncomputable def c_config_Read : Orc := ent i_config_Read [] 0 (sp fa_config_Read ha_config_Read fr_config_Read hr_config_Read G_config_Read out_config_Read)
theorem ok_config_Read : OrcOk PR c_config_Read := fnT okO_config_Read mixed p_config_Read (by kernel_rfl) (by kernel_rfl) (L := L_config_Read) (kp := false) (by kernel_rfl) (inn := inn_config_Read) (out := out_config_Read) (fun _ _ => rfl) (loopsL (l := [((lpN f_config_Read 0), ls_config_Read_0)]) (by kernel_rfl) ⟨lp_config_Read_0, trivial⟩) (fun x y => by kernel_rfl)
end Go.Proofs.Ytcpicekmnkjceaa.VI

namespace Go.Proofs.Ytcpicekmnkjceaa.VI
set_option linter.unusedVariables false
set_option linter.unusedSimpArgs false
set_option maxRecDepth 100000
set_option linter.unusedSimpArgs false
set_option linter.unusedVariables false
noncomputable def O_annealref24_Read : Orc := (orm c_annealref24_take c_annealref24_Put)
theorem okO_annealref24_Read : OrcOk PR O_annealref24_Read := (orm_ok ok_annealref24_take ok_annealref24_Put)
abbrev fa_annealref24_Read : Fm := (.pair (.si .u8) .unit)
abbrev ha_annealref24_Read : List BF := []
abbrev fr_annealref24_Read : Fm := (.tup (.pair (.agg (.pair (.si .i64) (.pair (.i .i64) (.pair (.i .i64) (.pair (.i .i64) (.pair (.i .i64) (.pair (.i .i64) (.pair (.i .u32) (.pair (.i .u32) (.pair (.i .u32) (.pair (.i .u32) (.pair (.i .u32) (.pair (.i .u32) (.pair (.i .i64) (.pair (.i .i64) (.pair (.i .i64) (.pair (.i .i64) (.pair (.i .u64) (.pair (.i .u32) (.pair .b (.pair (.i .i64) (.pair (.i .i64) (.pair (.i .i64) (.pair (.i .i64) (.pair (.i .i64) (.pair (.i .i64) (.pair (.i .i64) .unit))))))))))))))))))))))))))) (.pair (.i .i64) .unit)))
abbrev hr_annealref24_Read : List BF := []
abbrev ff_annealref24_Read_0 : Fm := (.pair (.si .u8) (.us 1 (.cst (.ref 0 1 0) (.us 1 (.cst (.ref 1 1 0) (.pair (.i .i64) (.pair (.i .i64) (.us 187 .unit))))))))
abbrev hf_annealref24_Read_0 : List BF := [(.list 1 y_api_Config true (.cst .nils (.pair (.i .i64) (.pair (.i .i64) (.pair (.i .i64) (.pair (.i .i64) (.pair (.i .i64) (.pair (.i .u32) (.pair (.i .u32) (.pair (.i .u32) (.pair (.i .u32) (.pair (.i .u32) (.pair (.i .u32) (.pair (.i .i64) (.pair (.i .i64) (.pair (.i .i64) (.pair (.i .i64) (.pair (.i .u64) (.pair (.i .u32) (.pair .b (.pair (.i .i64) (.pair (.i .i64) (.pair (.i .i64) (.pair (.i .i64) (.pair (.i .i64) (.pair (.i .i64) (.pair (.i .i64) .unit))))))))))))))))))))))))))), (.list 1 y_api_Config true (.pair (.own 2 1 0 1) (.pair (.i .i64) (.pair (.i .i64) (.pair (.i .i64) (.pair (.i .i64) (.pair (.i .i64) (.pair (.i .u32) (.pair (.i .u32) (.pair (.i .u32) (.pair (.i .u32) (.pair (.i .u32) (.pair (.i .u32) (.pair (.i .i64) (.pair (.i .i64) (.pair (.i .i64) (.pair (.i .i64) (.pair (.i .u64) (.pair (.i .u32) (.pair .b (.pair (.i .i64) (.pair (.i .i64) (.pair (.i .i64) (.pair (.i .i64) (.pair (.i .i64) (.pair (.i .i64) (.pair (.i .i64) .unit))))))))))))))))))))))))))), (.ints 1 y_int true .i64)]
abbrev X_annealref24_Read_0 : Xs := (.one (.exit 0) [0, 2, 4, 5] (.pair (.si .u8) (.us 1 (.cst (.ref 0 1 0) (.us 1 (.cst (.ref 1 1 0) (.pair (.i .i64) (.us 188 .unit))))))) [(.list 1 y_api_Config true (.cst .nils (.pair (.i .i64) (.pair (.i .i64) (.pair (.i .i64) (.pair (.i .i64) (.pair (.i .i64) (.pair (.i .u32) (.pair (.i .u32) (.pair (.i .u32) (.pair (.i .u32) (.pair (.i .u32) (.pair (.i .u32) (.pair (.i .i64) (.pair (.i .i64) (.pair (.i .i64) (.pair (.i .i64) (.pair (.i .u64) (.pair (.i .u32) (.pair .b (.pair (.i .i64) (.pair (.i .i64) (.pair (.i .i64) (.pair (.i .i64) (.pair (.i .i64) (.pair (.i .i64) (.pair (.i .i64) .unit))))))))))))))))))))))))))), (.list 1 y_api_Config true (.pair (.own 2 1 0 1) (.pair (.i .i64) (.pair (.i .i64) (.pair (.i .i64) (.pair (.i .i64) (.pair (.i .i64) (.pair (.i .u32) (.pair (.i .u32) (.pair (.i .u32) (.pair (.i .u32) (.pair (.i .u32) (.pair (.i .u32) (.pair (.i .i64) (.pair (.i .i64) (.pair (.i .i64) (.pair (.i .i64) (.pair (.i .u64) (.pair (.i .u32) (.pair .b (.pair (.i .i64) (.pair (.i .i64) (.pair (.i .i64) (.pair (.i .i64) (.pair (.i .i64) (.pair (.i .i64) (.pair (.i .i64) .unit))))))))))))))))))))))))))), (.ints 1 y_int true .i64)])
abbrev S_annealref24_Read_0 : Type := T ff_annealref24_Read_0 × TH hf_annealref24_Read_0
abbrev E_annealref24_Read_0 : Type := TX X_annealref24_Read_0
noncomputable def LB_annealref24_Read_0 : Lps := L0
noncomputable def st_annealref24_Read_0 : StepT S_annealref24_Read_0 E_annealref24_Read_0 := fun R v kn ko =>
  let x0 : List Int := v.1.1
  let x1 : Nat := (List.length x0)
  let x2 : Int := v.1.2.2.1
  let x3 : Nat := (Int.toNat (IntKind.wrap .i64 ((9:Int) + (IntKind.wrap .i64 ((2:Int) * x2)))))
  let x4 : Nat := ((Int.toNat ((x1 : Nat) : Int)) - x3)
  let x5 : List Int := (List.take x1 x0)
  let x6 : Int := v.1.2.1
  let x7 : Nat := v.2.2.1.1
  bif (decide (x2 < x6)) then
    bif (decide (((0:Int) ≤ (IntKind.wrap .i64 ((9:Int) + (IntKind.wrap .i64 ((2:Int) * x2))))) ∧ (((IntKind.wrap .i64 ((9:Int) + (IntKind.wrap .i64 ((2:Int) * x2)))) ≤ ((x1 : Nat) : Int)) ∧ (((x1 : Nat) : Int) ≤ ((x1 : Nat) : Int))))) then
      ((F_annealref24_take (List.take x4 (List.take x4 (List.drop x3 x0))) (2:Int))).bind fun r8 =>
      bif (decide ((x7 + (1:Nat)) ≤ (1073741824:Nat))) then
        (kn ((x5, (x6, ((IntKind.wrap .i64 (x2 + (1:Int))), ()))), (v.2.1, (((x7 + (1:Nat)), v.2.2.1.2), (((List.take x7 v.2.2.2.1) ++ [(IntKind.wrap .i64 r8)]), ())))))
      else
        none
    else
      none
  else
    (ko ((x5, (x6, ())), v.2))
noncomputable def ls_annealref24_Read_0 : St → LTr := (lsum ff_annealref24_Read_0 hf_annealref24_Read_0 X_annealref24_Read_0 Prod.mk id st_annealref24_Read_0 (hd [(.via 4 0, y_int, 0, .ints .i64)] [] [0, 2, 4, 5, 6] 0))
theorem lp_annealref24_Read_0 : LoopOk PR 0 (lpN f_annealref24_Read 0) ls_annealref24_Read_0 := loopT okO_annealref24_Read mixed (L := LB_annealref24_Read_0) (d := 1) (bs := []) (ks := [0, 2, 4, 5, 6]) (loopsL (l := []) (by kernel_rfl) trivial) (by kernel_rfl) (inS := Prod.mk) (outS := id) (fun _ _ => rfl) (inX := id) (outX := id) (fun _ => rfl) (fun v R kn ko => by kernel_rfl) (hd_wk [(.via 4 0, y_int, 0, .ints .i64)] [] [0, 2, 4, 5, 6] 0)
noncomputable def L_annealref24_Read : Lps := (lpB 14 (.un 12 [0, 2, 4, 7, 8, 9]) (lpB 7 (.by_ ls_annealref24_Read_0) L0))
def inn_annealref24_Read : T fr_annealref24_Read → TH hr_annealref24_Read → (List Int × Int × Int × Int × Int × Int × Int × Int × Int × Int × Int × Int × Int × Int × Int × Int × Int × Int × Bool × Int × Int × Int × Int × Int × Int × Int × Unit) × Int × Unit := (fun z w => z)
def out_annealref24_Read : (List Int × Int × Int × Int × Int × Int × Int × Int × Int × Int × Int × Int × Int × Int × Int × Int × Int × Int × Bool × Int × Int × Int × Int × Int × Int × Int × Unit) × Int × Unit → T fr_annealref24_Read × TH hr_annealref24_Read := fun r => (r, ())
noncomputable def F_annealref24_Read (a0 : List Int) : Option ((List Int × Int × Int × Int × Int × Int × Int × Int × Int × Int × Int × Int × Int × Int × Int × Int × Int × Int × Bool × Int × Int × Int × Int × Int × Int × Int × Unit) × Int × Unit) :=
  let x0 : Int := (IntKind.wrap .i64 (List.getD a0 (8:Nat) (0:Int)))
  bif (decide ((((List.length a0) : Nat) : Int) < (9:Int))) then
    (some (([], ((0:Int), ((0:Int), ((0:Int), ((0:Int), ((0:Int), ((0:Int), ((0:Int), ((0:Int), ((0:Int), ((0:Int), ((0:Int), ((0:Int), ((0:Int), ((0:Int), ((0:Int), ((0:Int), ((0:Int), (false, ((0:Int), ((0:Int), ((0:Int), ((0:Int), ((0:Int), ((0:Int), ((0:Int), ())))))))))))))))))))))))))), ((20:Int), ())))
  else
    bif (decide (((0:Int) ≤ (8:Int)) ∧ ((8:Int) < (((List.length a0) : Nat) : Int)))) then
      bif ((((List.length a0) : Nat) : Int) != (IntKind.wrap .i64 ((IntKind.wrap .i64 ((IntKind.wrap .i64 ((IntKind.wrap .i64 ((IntKind.wrap .i64 ((IntKind.wrap .i64 ((9:Int) + (IntKind.wrap .i64 ((2:Int) * x0)))) + (6:Int))) + (44:Int))) + (4:Int))) + (5:Int))) + (8:Int)))) then
        (some (([], ((0:Int), ((0:Int), ((0:Int), ((0:Int), ((0:Int), ((0:Int), ((0:Int), ((0:Int), ((0:Int), ((0:Int), ((0:Int), ((0:Int), ((0:Int), ((0:Int), ((0:Int), ((0:Int), ((0:Int), (false, ((0:Int), ((0:Int), ((0:Int), ((0:Int), ((0:Int), ((0:Int), ((0:Int), ())))))))))))))))))))))))))), ((20:Int), ())))
      else
        bif (decide (((0:Int) ≤ (8:Int)) ∧ ((8:Int) < (((List.length a0) : Nat) : Int)))) then
          ((lim st_annealref24_Read_0 (((List.take (List.length a0) a0), (x0, ((0:Int), ()))), (((0:Int), ((0:Int), ((0:Int), ((0:Int), ((0:Int), ((0:Int), ((0:Int), ((0:Int), ((0:Int), ((0:Int), ((0:Int), ((0:Int), ((0:Int), ((0:Int), ((0:Int), ((0:Int), ((0:Int), (false, ((0:Int), ((0:Int), ((0:Int), ((0:Int), ((0:Int), ((0:Int), ((0:Int), ()))))))))))))))))))))))))), (((0:Nat), ((0:Int), ((0:Int), ((0:Int), ((0:Int), ((0:Int), ((0:Int), ((0:Int), ((0:Int), ((0:Int), ((0:Int), ((0:Int), ((0:Int), ((0:Int), ((0:Int), ((0:Int), ((0:Int), ((0:Int), (false, ((0:Int), ((0:Int), ((0:Int), ((0:Int), ((0:Int), ((0:Int), ((0:Int), ())))))))))))))))))))))))))), ([], ())))))).bind fun r1 =>
          let x2 : List Int := r1.1.1
          let x3 : Nat := (List.length x2)
          let x4 : Nat := (Int.toNat (IntKind.wrap .i64 ((9:Int) + (IntKind.wrap .i64 ((2:Int) * r1.1.2.1)))))
          let x5 : Nat := ((Int.toNat ((x3 : Nat) : Int)) - x4)
          let x6 : Nat := (Int.toNat ((x5 : Nat) : Int))
          let x7 : Nat := (x6 - (6:Nat))
          let x8 : List Int := (List.take x5 (List.drop x4 x2))
          let x9 : Nat := (x6 - (10:Nat))
          let x10 : Nat := (x6 - (14:Nat))
          let x11 : Nat := (x6 - (18:Nat))
          let x12 : Nat := (x6 - (22:Nat))
          let x13 : Nat := (x6 - (26:Nat))
          let x14 : Nat := (x6 - (30:Nat))
          let x15 : Nat := (x6 - (34:Nat))
          let x16 : Nat := (x6 - (38:Nat))
          let x17 : Nat := (x6 - (42:Nat))
          let x18 : Nat := (x6 - (46:Nat))
          let x19 : Nat := (x6 - (50:Nat))
          let x20 : List Int := (List.take x19 (List.drop (50:Nat) x8))
          let x21 : Nat := (Int.toNat ((x19 : Nat) : Int))
          let x22 : Nat := (x21 - (2:Nat))
          let x23 : Nat := (x21 - (9:Nat))
          bif (decide (((0:Int) ≤ (IntKind.wrap .i64 ((9:Int) + (IntKind.wrap .i64 ((2:Int) * r1.1.2.1))))) ∧ (((IntKind.wrap .i64 ((9:Int) + (IntKind.wrap .i64 ((2:Int) * r1.1.2.1)))) ≤ ((x3 : Nat) : Int)) ∧ (((x3 : Nat) : Int) ≤ ((x3 : Nat) : Int))))) then
            bif (decide (((0:Int) ≤ (0:Int)) ∧ ((0:Int) < ((x5 : Nat) : Int)))) then
              bif (decide (((0:Int) ≤ (1:Int)) ∧ ((1:Int) < ((x5 : Nat) : Int)))) then
                bif (decide (((0:Int) ≤ (2:Int)) ∧ ((2:Int) < ((x5 : Nat) : Int)))) then
                  bif (decide (((0:Int) ≤ (3:Int)) ∧ ((3:Int) < ((x5 : Nat) : Int)))) then
                    bif (decide (((0:Int) ≤ (4:Int)) ∧ ((4:Int) < ((x5 : Nat) : Int)))) then
                      bif (decide (((0:Int) ≤ (5:Int)) ∧ ((5:Int) < ((x5 : Nat) : Int)))) then
                        bif (decide (((0:Int) ≤ (6:Int)) ∧ (((6:Int) ≤ ((x5 : Nat) : Int)) ∧ (((x5 : Nat) : Int) ≤ ((x5 : Nat) : Int))))) then
                          ((F_annealref24_take (List.take x7 (List.take x7 (List.drop (6:Nat) x8))) (4:Int))).bind fun r24 =>
                          bif (decide (((0:Int) ≤ (10:Int)) ∧ (((10:Int) ≤ ((x5 : Nat) : Int)) ∧ (((x5 : Nat) : Int) ≤ ((x5 : Nat) : Int))))) then
                            ((F_annealref24_take (List.take x9 (List.take x9 (List.drop (10:Nat) x8))) (4:Int))).bind fun r25 =>
                            bif (decide (((0:Int) ≤ (14:Int)) ∧ (((14:Int) ≤ ((x5 : Nat) : Int)) ∧ (((x5 : Nat) : Int) ≤ ((x5 : Nat) : Int))))) then
                              ((F_annealref24_take (List.take x10 (List.take x10 (List.drop (14:Nat) x8))) (4:Int))).bind fun r26 =>
                              bif (decide (((0:Int) ≤ (18:Int)) ∧ (((18:Int) ≤ ((x5 : Nat) : Int)) ∧ (((x5 : Nat) : Int) ≤ ((x5 : Nat) : Int))))) then
                                ((F_annealref24_take (List.take x11 (List.take x11 (List.drop (18:Nat) x8))) (4:Int))).bind fun r27 =>
                                bif (decide (((0:Int) ≤ (22:Int)) ∧ (((22:Int) ≤ ((x5 : Nat) : Int)) ∧ (((x5 : Nat) : Int) ≤ ((x5 : Nat) : Int))))) then
                                  ((F_annealref24_take (List.take x12 (List.take x12 (List.drop (22:Nat) x8))) (4:Int))).bind fun r28 =>
                                  bif (decide (((0:Int) ≤ (26:Int)) ∧ (((26:Int) ≤ ((x5 : Nat) : Int)) ∧ (((x5 : Nat) : Int) ≤ ((x5 : Nat) : Int))))) then
                                    ((F_annealref24_take (List.take x13 (List.take x13 (List.drop (26:Nat) x8))) (4:Int))).bind fun r29 =>
                                    bif (decide (((0:Int) ≤ (30:Int)) ∧ (((30:Int) ≤ ((x5 : Nat) : Int)) ∧ (((x5 : Nat) : Int) ≤ ((x5 : Nat) : Int))))) then
                                      ((F_annealref24_take (List.take x14 (List.take x14 (List.drop (30:Nat) x8))) (4:Int))).bind fun r30 =>
                                      bif (decide (((0:Int) ≤ (34:Int)) ∧ (((34:Int) ≤ ((x5 : Nat) : Int)) ∧ (((x5 : Nat) : Int) ≤ ((x5 : Nat) : Int))))) then
                                        ((F_annealref24_take (List.take x15 (List.take x15 (List.drop (34:Nat) x8))) (4:Int))).bind fun r31 =>
                                        bif (decide (((0:Int) ≤ (38:Int)) ∧ (((38:Int) ≤ ((x5 : Nat) : Int)) ∧ (((x5 : Nat) : Int) ≤ ((x5 : Nat) : Int))))) then
                                          ((F_annealref24_take (List.take x16 (List.take x16 (List.drop (38:Nat) x8))) (4:Int))).bind fun r32 =>
                                          bif (decide (((0:Int) ≤ (42:Int)) ∧ (((42:Int) ≤ ((x5 : Nat) : Int)) ∧ (((x5 : Nat) : Int) ≤ ((x5 : Nat) : Int))))) then
                                            ((F_annealref24_take (List.take x17 (List.take x17 (List.drop (42:Nat) x8))) (4:Int))).bind fun r33 =>
                                            bif (decide (((0:Int) ≤ (46:Int)) ∧ (((46:Int) ≤ ((x5 : Nat) : Int)) ∧ (((x5 : Nat) : Int) ≤ ((x5 : Nat) : Int))))) then
                                              ((F_annealref24_take (List.take x18 (List.take x18 (List.drop (46:Nat) x8))) (4:Int))).bind fun r34 =>
                                              let x35 : List Int := (List.set (List.set (List.set (List.set (List.set (List.set (List.set (List.set (List.set (List.set (List.set [(0:Int), (0:Int), (0:Int), (0:Int), (0:Int), (0:Int), (0:Int), (0:Int), (0:Int), (0:Int), (0:Int)] (0:Nat) (IntKind.wrap .u32 r24)) (1:Nat) (IntKind.wrap .u32 r25)) (2:Nat) (IntKind.wrap .u32 r26)) (3:Nat) (IntKind.wrap .u32 r27)) (4:Nat) (IntKind.wrap .u32 r28)) (5:Nat) (IntKind.wrap .u32 r29)) (6:Nat) (IntKind.wrap .u32 r30)) (7:Nat) (IntKind.wrap .u32 r31)) (8:Nat) (IntKind.wrap .u32 r32)) (9:Nat) (IntKind.wrap .u32 r33)) (10:Nat) (IntKind.wrap .u32 r34))
                                              bif (decide (((0:Int) ≤ (50:Int)) ∧ (((50:Int) ≤ ((x5 : Nat) : Int)) ∧ (((x5 : Nat) : Int) ≤ ((x5 : Nat) : Int))))) then
                                                ((F_annealref24_take (List.take x19 x20) (2:Int))).bind fun r36 =>
                                                bif (decide (((0:Int) ≤ (2:Int)) ∧ (((2:Int) ≤ ((x19 : Nat) : Int)) ∧ (((x19 : Nat) : Int) ≤ ((x19 : Nat) : Int))))) then
                                                  ((F_annealref24_take (List.take x22 (List.take x22 (List.drop (2:Nat) x20))) (2:Int))).bind fun r37 =>
                                                  bif (decide (((0:Int) ≤ (4:Int)) ∧ ((4:Int) < ((x19 : Nat) : Int)))) then
                                                    bif (decide (((0:Int) ≤ (5:Int)) ∧ ((5:Int) < ((x19 : Nat) : Int)))) then
                                                      bif (decide (((0:Int) ≤ (6:Int)) ∧ ((6:Int) < ((x19 : Nat) : Int)))) then
                                                        bif (decide (((0:Int) ≤ (7:Int)) ∧ ((7:Int) < ((x19 : Nat) : Int)))) then
                                                          bif (decide (((0:Int) ≤ (8:Int)) ∧ ((8:Int) < ((x19 : Nat) : Int)))) then
                                                            bif (decide (((0:Int) ≤ (9:Int)) ∧ (((9:Int) ≤ ((x19 : Nat) : Int)) ∧ (((x19 : Nat) : Int) ≤ ((x19 : Nat) : Int))))) then
                                                              ((F_annealref24_take (List.take x23 (List.take x23 (List.drop (9:Nat) x20))) (8:Int))).bind fun r38 =>
                                                              ((F_annealref24_Put ((List.take r1.2.2.1.1 (List.drop (0:Nat) r1.2.2.2.1)), ((IntKind.wrap .i64 (List.getD x8 (0:Nat) (0:Int))), ((IntKind.wrap .i64 (List.getD x8 (1:Nat) (0:Int))), ((IntKind.wrap .i64 (List.getD x8 (2:Nat) (0:Int))), ((IntKind.wrap .i64 (List.getD x8 (3:Nat) (0:Int))), ((IntKind.wrap .i64 (List.getD x8 (4:Nat) (0:Int))), ((List.getD x35 (0:Nat) (0:Int)), ((List.getD x35 (1:Nat) (0:Int)), ((List.getD x35 (2:Nat) (0:Int)), ((List.getD x35 (3:Nat) (0:Int)), ((List.getD x35 (4:Nat) (0:Int)), ((List.getD x35 (5:Nat) (0:Int)), ((IntKind.wrap .i64 (List.getD x35 (7:Nat) (0:Int))), ((IntKind.wrap .i64 (List.getD x35 (8:Nat) (0:Int))), ((IntKind.wrap .i64 r36), ((IntKind.wrap .i64 r37), (r38, ((List.getD x35 (6:Nat) (0:Int)), (((List.getD x8 (5:Nat) (0:Int)) == (1:Int)), ((IntKind.wrap .i64 (List.getD x20 (4:Nat) (0:Int))), ((IntKind.wrap .i64 (List.getD x20 (5:Nat) (0:Int))), ((IntKind.wrap .i64 (List.getD x20 (6:Nat) (0:Int))), ((IntKind.wrap .i64 (List.getD x20 (7:Nat) (0:Int))), ((IntKind.wrap .i64 (List.getD x20 (8:Nat) (0:Int))), ((IntKind.wrap .i64 (List.getD x35 (9:Nat) (0:Int))), ((IntKind.wrap .i64 (List.getD x35 (10:Nat) (0:Int))), ())))))))))))))))))))))))))))).bind fun r39 =>
                                                              bif (r39.2.1 != (0:Int)) then
                                                                (some (([], ((0:Int), ((0:Int), ((0:Int), ((0:Int), ((0:Int), ((0:Int), ((0:Int), ((0:Int), ((0:Int), ((0:Int), ((0:Int), ((0:Int), ((0:Int), ((0:Int), ((0:Int), ((0:Int), ((0:Int), (false, ((0:Int), ((0:Int), ((0:Int), ((0:Int), ((0:Int), ((0:Int), ((0:Int), ())))))))))))))))))))))))))), ((20:Int), ())))
                                                              else
                                                                bif (!((List.map b8 (List.take (List.length r39.1) r39.1)) == (List.map b8 (List.take x3 x2)))) then
                                                                  (some (([], ((0:Int), ((0:Int), ((0:Int), ((0:Int), ((0:Int), ((0:Int), ((0:Int), ((0:Int), ((0:Int), ((0:Int), ((0:Int), ((0:Int), ((0:Int), ((0:Int), ((0:Int), ((0:Int), ((0:Int), (false, ((0:Int), ((0:Int), ((0:Int), ((0:Int), ((0:Int), ((0:Int), ((0:Int), ())))))))))))))))))))))))))), ((20:Int), ())))
                                                                else
                                                                  (some (((List.take r1.2.2.1.1 (List.drop (0:Nat) r1.2.2.2.1)), ((IntKind.wrap .i64 (List.getD x8 (0:Nat) (0:Int))), ((IntKind.wrap .i64 (List.getD x8 (1:Nat) (0:Int))), ((IntKind.wrap .i64 (List.getD x8 (2:Nat) (0:Int))), ((IntKind.wrap .i64 (List.getD x8 (3:Nat) (0:Int))), ((IntKind.wrap .i64 (List.getD x8 (4:Nat) (0:Int))), ((List.getD x35 (0:Nat) (0:Int)), ((List.getD x35 (1:Nat) (0:Int)), ((List.getD x35 (2:Nat) (0:Int)), ((List.getD x35 (3:Nat) (0:Int)), ((List.getD x35 (4:Nat) (0:Int)), ((List.getD x35 (5:Nat) (0:Int)), ((IntKind.wrap .i64 (List.getD x35 (7:Nat) (0:Int))), ((IntKind.wrap .i64 (List.getD x35 (8:Nat) (0:Int))), ((IntKind.wrap .i64 r36), ((IntKind.wrap .i64 r37), (r38, ((List.getD x35 (6:Nat) (0:Int)), (((List.getD x8 (5:Nat) (0:Int)) == (1:Int)), ((IntKind.wrap .i64 (List.getD x20 (4:Nat) (0:Int))), ((IntKind.wrap .i64 (List.getD x20 (5:Nat) (0:Int))), ((IntKind.wrap .i64 (List.getD x20 (6:Nat) (0:Int))), ((IntKind.wrap .i64 (List.getD x20 (7:Nat) (0:Int))), ((IntKind.wrap .i64 (List.getD x20 (8:Nat) (0:Int))), ((IntKind.wrap .i64 (List.getD x35 (9:Nat) (0:Int))), ((IntKind.wrap .i64 (List.getD x35 (10:Nat) (0:Int))), ())))))))))))))))))))))))))), ((0:Int), ())))
                                                            else
                                                              none
                                                          else
                                                            none
                                                        else
                                                          none
                                                      else
                                                        none
                                                    else
                                                      none
                                                  else
                                                    none
                                                else
                                                  none
                                              else
                                                none
                                            else
                                              none
                                          else
                                            none
                                        else
                                          none
                                      else
                                        none
                                    else
                                      none
                                  else
                                    none
                                else
                                  none
                              else
                                none
                            else
                              none
                          else
                            none
                        else
                          none
                      else
                        none
                    else
                      none
                  else
                    none
                else
                  none
              else
                none
            else
              none
          else
            none
        else
          none
    else
      none
noncomputable def G_annealref24_Read : T fa_annealref24_Read → TH ha_annealref24_Read → Option ((List Int × Int × Int × Int × Int × Int × Int × Int × Int × Int × Int × Int × Int × Int × Int × Int × Int × Int × Bool × Int × Int × Int × Int × Int × Int × Int × Unit) × Int × Unit) := fun x y => F_annealref24_Read x.1
noncomputable def c_annealref24_Read : Orc := ent i_annealref24_Read [] 0 (sp fa_annealref24_Read ha_annealref24_Read fr_annealref24_Read hr_annealref24_Read G_annealref24_Read out_annealref24_Read)
theorem ok_annealref24_Read : OrcOk PR c_annealref24_Read := fnT okO_annealref24_Read mixed p_annealref24_Read (by kernel_rfl) (by kernel_rfl) (L := L_annealref24_Read) (kp := false) (by kernel_rfl) (inn := inn_annealref24_Read) (out := out_annealref24_Read) (fun _ _ => rfl) (loopsL (l := [((lpN f_annealref24_Read 0), ls_annealref24_Read_0)]) (by kernel_rfl) ⟨lp_annealref24_Read_0, trivial⟩) (fun x y => by kernel_rfl)
end Go.Proofs.Ytcpicekmnkjceaa.VI
