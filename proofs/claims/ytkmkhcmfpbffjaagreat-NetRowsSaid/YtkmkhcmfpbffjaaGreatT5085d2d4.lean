import Derived.Test.YtkmkhcmfpbffjaaGreatT7f07ae08
namespace Go.Proofs.YtkmkhcmfpbffjaaGreat.VI
set_option linter.unusedVariables false
set_option linter.unusedSimpArgs false
theorem ok_zcells {P : Program} {t : TypeId} {cs : List V} (h : zcells P t = some cs) : oks cs := by
  unfold zcells at h
  split at h
  · split at h
    · split at h
      · injection h with h; subst h
        exact oks_iff.2 fun c hc => by
          obtain ⟨a, _, rfl⟩ := List.mem_map.1 hc
          exact ok_ofCell a
      · cases h
    · cases h
  · cases h
theorem ok_fill {place : Nat → Option (Nat × Nat)} : ∀ {ps : List (Nat × V)} {cells r : List V}, vfill place cells ps = some r → oks cells → (∀ p ∈ ps, p.2.ok) → oks r
  | [], _, _, h, hc, _ => by simp [vfill] at h; subst h; exact hc
  | (i, v) :: ps, cells, r, h, hc, hp => by
    simp only [vfill] at h
    split at h
    · cases h
    · split at h
      · cases h
      · rename_i vs hvs
        split at h
        · exact ok_fill h (hc.lay (ok_cells (hp (i, v) (by simp)) hvs) _) fun p hm => hp p (List.mem_cons_of_mem _ hm)
        · cases h
theorem ok_build {P : Program} {t : TypeId} {ps : List (Nat × V)} {r : V} (h : vbuild P t ps = some r) (hp : ∀ p ∈ ps, p.2.ok) : r.ok := by
  unfold vbuild at h
  split at h
  · cases h
  · rename_i zs hz
    repeat' split at h
    all_goals first
      | (rename_i hf; injection h with h; subst h; exact ok_fill hf (ok_zcells hz) hp)
      | cases h
theorem ok_mixD : ∀ (n : Nat) (p cs : List V), oks p → oks cs → (mixD n p cs).ok
  | 0, p, cs, hp, hc => hp.app hc
  | n + 1, p, cs, hp, hc => by
    unfold mixD
    split
    · split
      · split
        · rename_i h; exact ⟨hp, ints_oks h hc⟩
        · exact ok_mixD n _ _ (hp.app ⟨hc.1, trivial⟩) hc.2
      · exact hp.app hc
    · split
      · exact ok_mixD n _ _ (hp.app ⟨hc.1, trivial⟩) hc.2
      · exact hp.app hc
    · exact hp.app trivial
theorem ok_getD {k : IntKind} {xs : List Int} (h : ∀ e ∈ xs, inR k e) (j : Nat) : inR k (xs.getD j 0) := by
  rw [List.getD_eq_getElem?_getD]
  cases hy : xs[j]? with
  | none => exact zero_in k
  | some y => exact h y (List.mem_of_getElem? hy)
theorem ok_xsV {k : IntKind} {xs : List Int} (h : ∀ e ∈ xs, inR k e) : ∀ (n j : Nat), oks (xsV k xs j n)
  | 0, _ => trivial
  | n + 1, j => ⟨ok_getD h j, ok_xsV h n (j + 1)⟩
theorem ok_loadM {P : Program} {t : TypeId} {pre : List V} {k : IntKind} {xs : List Int} {off : Nat} {r : V} (h : vloadD P t (.mix pre k xs) off = some r) (hp : oks pre) (hx : ∀ e ∈ xs, inR k e) : r.ok := by
  simp only [vloadD] at h
  split at h
  · split at h
    · injection h with h; subst h; exact ok_getD hx _
    · cases h
  · split at h
    · exact hp.get h
    · split at h
      · split at h
        · split at h
          · injection h with h; subst h; exact hp.app (ok_xsV hx _ _)
          · cases h
        · split at h
          · injection h with h; subst h; exact ok_xsV hx _ _
          · cases h
      · cases h
    · cases h
theorem ok_layM {pre : List V} {k : IntKind} {xs : List Int} {off : Nat} {vs : List V} {d : D} (h : vlayD (.mix pre k xs) off vs = some d) (hp : oks pre) (hx : ∀ e ∈ xs, inR k e) (hv : oks vs) : d.ok := by
  simp only [vlayD] at h
  split at h
  · split at h
    · rename_i hc
      injection h with h; subst h
      refine ⟨hp, fun x q => ?_⟩
      rcases List.mem_or_eq_of_mem_set q with q | q
      · exact hx x q
      · rw [q, hc.1]; exact hv.1
    · cases h
  · split at h
    · injection h with h; subst h; exact ⟨hp.set _ hv.1, hx⟩
    · cases h
  · split at h
    · rename_i hy
      split at h
      · injection h with h; subst h; exact ⟨hv.take _, ints_oks hy (hv.drop _)⟩
      · cases h
    · cases h
theorem ok_mkD {P : Program} {e : TypeId} {cs : List V} (h : oks cs) : (mkD P e cs).ok := by
  unfold mkD
  split
  · split
    · rename_i hx; exact ints_oks hx h
    · exact h
  · exact ok_mixD 3 [] cs trivial h
theorem ok_zD {zs : List V} (h : oks zs) (n : Nat) : (zD zs n).ok := by
  unfold zD
  split
  · exact fun e he => by rw [List.eq_of_mem_replicate he]; exact h.1
  · exact fun _ => h
theorem ok_load {P : Program} {t : TypeId} {cs : List V} {off : Nat} {r : V} (h : vload P t cs off = some r) (hc : oks cs) : r.ok := by
  unfold vload at h
  split at h
  · split at h
    · injection h with h; subst h; exact (hc.drop _).take _
    · cases h
  · exact hc.get h
  · cases h
theorem ok_loadAt {P : Program} {h : Heap} {t : TypeId} {c r : V} (e : vloadAt P h t c = some r) (hh : hok h) (hc : c.ok) : r.ok := by
  unfold vloadAt at e
  split at e
  · split at e
    · rename_i b hb
      have hd := hh.at hb
      unfold vloadD at e
      split at e
      · rename_i he; rw [he] at hd; exact ok_load e hd
      · rename_i k xs he
        rw [he] at hd
        split at e
        · split at e
          · rename_i hl
            injection e with e; subst e
            show inR k _
            rw [List.getD_eq_getElem?_getD, List.getElem?_eq_getElem hl]
            exact hd _ (List.getElem_mem hl)
          · cases e
        · cases e
      · cases e
      · rename_i he; rw [he] at hd; exact ok_loadM e hd.1 hd.2
      · cases e
    · cases e
  · exact ok_load e hc
  · split at e
    · rename_i b hb
      have hd := hh.at hb
      unfold vloadR at e
      split at e
      · rename_i n s g he
        rw [he] at hd
        split at e
        · rename_i hcc; exact ok_load e ((hd _).fit _)
        · cases e
      · cases e
    · cases e
  · cases e
theorem ok_upd {row : Nat} {g : Nat → List V} {cs : List V} (h : ∀ j, oks (g j)) (hc : oks cs) : ∀ j, oks (upd g row cs j) := fun j => by
  by_cases e : j = row
  · subst e; rw [upd_at]; exact hc
  · rw [upd_ne e]; exact h j
theorem ok_storeAt {P : Program} {h h' : Heap} {t : TypeId} {a c : V} (e : vstoreAt P h t a c = some h') (hh : hok h) (hc : c.ok) : hok h' := by
  unfold vstoreAt at e
  split at e
  · split at e
    · rename_i b vs n hb hvs hn
      have hd := hh.at hb
      have hv := ok_cells hc hvs
      split at e
      · split at e
        · rename_i d hl
          injection e with e; subst e
          refine hh.set _ ?_
          show d.ok
          unfold vlayD at hl
          split at hl
          · rename_i he; rw [he] at hd
            split at hl
            · injection hl with hl; subst hl; exact oks.lay hd hv _
            · cases hl
          · rename_i k xs he; rw [he] at hd
            split at hl
            · rename_i k' n'
              split at hl
              · rename_i hk
                injection hl with hl; subst hl
                intro x hx
                rcases List.mem_or_eq_of_mem_set hx with q | q
                · exact hd x q
                · rw [q, hk.1]; exact hv.1
              · cases hl
            · cases hl
          · cases hl
          · rename_i he; rw [he] at hd; exact ok_layM hl hd.1 hd.2 hv
          · cases hl
        · cases e
      · cases e
    · cases e
  · split at e
    · rename_i b vs n hb hvs hn
      have hd := hh.at hb
      have hv := ok_cells hc hvs
      split at e
      · split at e
        · rename_i d hl
          injection e with e; subst e
          refine hh.set _ ?_
          show d.ok
          unfold vlayR at hl
          split at hl
          · rename_i n s g he; rw [he] at hd
            split at hl
            · rename_i hcc
              split at hl
              · injection hl with hl; subst hl
                exact ok_upd hd (((hd _).fit _).lay hv _)
              · cases hl
            · cases hl
          · cases hl
        · cases e
      · cases e
    · cases e
  · cases e
theorem ok_newg {h : Heap} (hh : hok h) (id g : Nat) (e : TypeId) {d : D} (hd : d.ok) : hok (newg h id g e d) := hh.set id hd
theorem ok_buildSlice {P : Program} {h : Heap} {id : Nat} {t : TypeId} {len : Nat} {ps : List (Nat × V)} {r : V} {h' : Heap} (e : vbuildSlice P h id t len ps = some (r, h')) (hh : hok h) (hp : ∀ p ∈ ps, p.2.ok) : r.ok ∧ hok h' := by
  unfold vbuildSlice at e
  split at e
  · split at e
    · rename_i s zs hs hz
      split at e
      · rename_i hc
        split at e
        · rename_i cs hf
          split at e
          · simp only [Option.some.injEq, Prod.mk.injEq] at e
            obtain ⟨rfl, rfl⟩ := e
            have hz' := ok_zcells hz
            have : oks (zrep zs (len * (s + 1))) := oks_iff.2 fun c hc => by
              obtain ⟨j, _, rfl⟩ := List.mem_map.1 hc
              exact hz'.getD _
            refine ⟨?_, ok_newg hh id 1 _ (ok_mkD (ok_fill hf this hp))⟩
            have h1 : len ≤ len * (s + 1) := Nat.le_mul_of_pos_right _ (by omega)
            show len ≤ lenM
            unfold lenM; omega
          · cases e
        · cases e
      · cases e
    · cases e
  · cases e
theorem ok_make {P : Program} {h : Heap} {id : Nat} {t : TypeId} {c r : V} {h' : Heap} (e : vmake P h id t c = some (r, h')) (hh : hok h) : r.ok ∧ hok h' := by
  unfold vmake at e
  split at e
  · split at e
    · split at e
      · rename_i s b zs hs hb hz
        split at e
        · split at e
          · rename_i hn
            simp only [Option.some.injEq, Prod.mk.injEq] at e
            obtain ⟨rfl, rfl⟩ := e
            refine ⟨?_, ok_newg hh id 1 _ (ok_zD (ok_zcells hz) _)⟩
            show _ ≤ lenM
            unfold lenM; omega
          · cases e
        · cases e
      · cases e
    · cases e
  · cases e
theorem bys_in (a : ByteArray) : ∀ e ∈ bys a, 0 ≤ e ∧ e < 256 := fun e he => by
  obtain ⟨b, _, rfl⟩ := List.mem_map.1 he
  have := b.toNat_lt
  omega
theorem ok_src {h : Heap} {sz m : Nat} {c : V} {d : D} (e : vsrc h sz c = some (m, d)) (hh : hok h) (hc : c.ok) : d.ok ∧ m ≤ lenM := by
  unfold vsrc at e
  split at e
  · simp only [Option.some.injEq, Prod.mk.injEq] at e; obtain ⟨rfl, rfl⟩ := e; exact ⟨trivial, by unfold lenM; omega⟩
  · split at e
    · simp only [Option.some.injEq, Prod.mk.injEq] at e; obtain ⟨rfl, rfl⟩ := e; exact ⟨fun x hx => hc.2 x (List.mem_of_mem_take hx), hc.1⟩
    · cases e
  · split at e
    · simp only [Option.some.injEq, Prod.mk.injEq] at e; obtain ⟨rfl, rfl⟩ := e; exact ⟨oks.take hc.2 _, hc.1⟩
    · cases e
  · split at e
    · simp only [Option.some.injEq, Prod.mk.injEq] at e; obtain ⟨rfl, rfl⟩ := e; exact ⟨hc.2, hc.1⟩
    · cases e
  · rename_i id gen off n s
    have hn : n ≤ lenM := hc
    split at e
    · split at e
      · rename_i b hb
        have hd := hh.at hb
        split at e
        · rename_i he; rw [he] at hd
          split at e
          · simp only [Option.some.injEq, Prod.mk.injEq] at e; obtain ⟨rfl, rfl⟩ := e; exact ⟨fun x hx => hd x (List.mem_of_mem_drop (List.mem_of_mem_take hx)), hn⟩
          · cases e
        · rename_i he; rw [he] at hd
          simp only [Option.some.injEq, Prod.mk.injEq] at e; obtain ⟨rfl, rfl⟩ := e; exact ⟨(oks.drop hd _).take _, hn⟩
        · rename_i he; rw [he] at hd
          split at e
          · simp only [Option.some.injEq, Prod.mk.injEq] at e; obtain ⟨rfl, rfl⟩ := e; exact ⟨fun j => by rw [shift_at]; exact hd _, hn⟩
          · cases e
        · cases e
        · cases e
      · cases e
    · cases e
  · split at e
    · simp only [Option.some.injEq, Prod.mk.injEq] at e; obtain ⟨rfl, rfl⟩ := e; exact ⟨fun x hx => byte_in (bys_in _ x hx), by have hc : _ < _ := hc; unfold lenM; omega⟩
    · cases e
  · split at e
    · simp only [Option.some.injEq, Prod.mk.injEq] at e; obtain ⟨rfl, rfl⟩ := e; exact ⟨fun x hx => byte_in (hc.2 x hx), hc.1⟩
    · cases e
  · cases e
theorem ok_catD {sz n m : Nat} {d1 d2 d : D} (h : catD sz n d1 m d2 = some d) (h1 : d1.ok) (h2 : d2.ok) : d.ok := by
  have hg : ∀ {n : Nat} {g f : Nat → List V}, (∀ j, oks (g j)) → (∀ j, oks (f j)) → ∀ j, oks (catg n g f j) := fun {n g f} a b j => by
    unfold catg; split
    · exact a j
    · exact b _
  have hu : ∀ (cs : List V), oks cs → ∀ (m k : Nat) (g : Nat → List V), (∀ j, oks (g j)) → ∀ j, oks (updl sz cs g n m k j) := by
    intro cs hcs m
    induction m with
    | zero => intro k g hg; exact hg
    | succ m ih => intro k g hg; exact ih (k + 1) _ (ok_upd hg ((hcs.drop _).take _))
  unfold catD at h
  split at h
  · split at h
    · split at h
      · rename_i hc
        injection h with h; subst h
        intro e he
        rcases List.mem_append.1 he with q | q
        · exact h1 e (List.mem_of_mem_take q)
        · rw [hc.1]; exact h2 e q
      · cases h
    · split at h
      · rename_i hy
        split at h
        · injection h with h; subst h
          intro e he
          rcases List.mem_append.1 he with q | q
          · exact h1 e (List.mem_of_mem_take q)
          · exact ints_oks hy h2 e q
        · cases h
      · cases h
    · cases h
  · split at h
    · split at h
      · injection h with h; subst h; exact hu _ h2 _ _ _ h1
      · cases h
    · split at h
      · injection h with h; subst h; exact hg h1 h2
      · cases h
    · rename_i k ys
      split at h
      · injection h with h; subst h
        refine hg h1 fun j => ⟨?_, trivial⟩
        show inR k _
        rw [List.getD_eq_getElem?_getD]
        cases hy : ys[j]? with
        | none => exact zero_in k
        | some y => exact h2 y (List.mem_of_getElem? hy)
      · cases h
    · cases h
    · cases h
  · split at h
    · injection h with h; subst h; exact oks.app (oks.take h1 _) h2
    · split at h
      · rename_i hx
        split at h
        · injection h with h; subst h
          intro e he
          rcases List.mem_append.1 he with q | q
          · exact ints_oks hx (oks.take h1 _) e q
          · exact h2 e q
        · cases h
      · cases h
    · split at h
      · split at h
        · injection h with h; subst h; exact h2
        · cases h
      · cases h
    · cases h
    · cases h
  · cases h
  · cases h
theorem ok_nilc {P : Program} {t : TypeId} {c : V} (h : c.ok) : (nilc P t c).ok := by
  unfold nilc
  split
  · split
    · split
      · exact ⟨Nat.zero_le _, fun e he => by cases he⟩
      · exact h
    · exact h
  · exact h
theorem ok_nilL {P : Program} (all : List TypeId) : ∀ (ts : List TypeId) (cs : List V), oks cs → oks (nilL P all ts cs)
  | ts, [], h => by cases ts <;> exact h
  | [], c :: cs, h => by
    unfold nilL
    split
    · exact ⟨h.1, ok_nilL _ [] cs h.2⟩
    · exact ⟨ok_nilc h.1, ok_nilL _ _ cs h.2⟩
  | t :: ts, c :: cs, h => ⟨ok_nilc h.1, ok_nilL all ts cs h.2⟩
theorem ok_nilD {P : Program} {t : TypeId} {d : D} (h : d.ok) : (nilD P t d).ok := by
  cases d with
  | list cs => exact ok_nilL _ _ cs h
  | _ => exact h
theorem ok_append {P : Program} {h : Heap} {id : Nat} {st xt : TypeId} {s c r : V} {h' : Heap} (e : vappend P h id st xt s c = some (r, h')) (hh : hok h) (hs : s.ok) (hc : c.ok) : r.ok ∧ hok h' := by
  unfold vappend at e
  split at e
  case h_2 => cases e
  split at e
  case h_2 => cases e
  rename_i z b zs hsz hb hz
  split at e
  case isFalse => cases e
  split at e
  case h_2 => cases e
  rename_i bid g n d1 m d2 hbase hapx
  split at e
  case h_2 => cases e
  rename_i d hcat
  split at e
  case isFalse => cases e
  rename_i hnm
  simp only [Option.some.injEq, Prod.mk.injEq] at e
  obtain ⟨rfl, rfl⟩ := e
  have h1 : d1.ok := by
    unfold vbase at hbase
    split at hbase
    · split at hbase
      · simp only [Option.some.injEq, Prod.mk.injEq] at hbase; obtain ⟨_, _, _, rfl⟩ := hbase; trivial
      · cases hbase
    · split at hbase
      · split at hbase
        · rename_i hb'
          split at hbase
          · simp only [Option.some.injEq, Prod.mk.injEq] at hbase; obtain ⟨_, _, _, rfl⟩ := hbase; exact hh.at hb'
          · cases hbase
        · cases hbase
      · cases hbase
    · cases hbase
  have h2 : d2.ok := by
    unfold vapx at hapx
    split at hapx
    · split at hapx
      · split at hapx
        · simp only [Option.some.injEq, Prod.mk.injEq] at hapx; obtain ⟨_, rfl⟩ := hapx; exact ok_zD (ok_zcells hz) _
        · cases hapx
      · cases hapx
    · exact (ok_src hapx hh hc).1
    · cases hapx
  exact ⟨by show _ ≤ lenM; unfold lenM; omega, ok_newg hh _ _ _ (ok_catD hcat h1 (ok_nilD h2))⟩
theorem b8_in (n : Int) : 0 ≤ b8 n ∧ b8 n < 256 := by unfold b8; omega
theorem asInts_len {k : IntKind} {cs : List V} {xs : List Int} (h : asInts k cs = some xs) : xs.length = cs.length := by
  have := congrArg List.length (asInts_ok h)
  simpa using this
theorem src_len {h : Heap} {m : Nat} {c : V} {d : D} (e : vsrc h 1 c = some (m, d)) : (∀ k ys, d = .ints k ys → ys.length ≤ m) ∧ ∀ cs, d = .list cs → cs.length ≤ m := by
  have ints : ∀ k (ys : List Int), ys.length ≤ m → d = .ints k ys → (∀ k ys, d = .ints k ys → ys.length ≤ m) ∧ ∀ cs, d = .list cs → cs.length ≤ m := by
    rintro k ys hy rfl
    exact ⟨(fun k' ys' h => by injection h with _ h; rw [← h]; exact hy), fun cs h => by cases h⟩
  have list : ∀ (ys : List V), ys.length ≤ m → d = .list ys → (∀ k ys, d = .ints k ys → ys.length ≤ m) ∧ ∀ cs, d = .list cs → cs.length ≤ m := by
    rintro ys hy rfl
    exact ⟨(fun k' ys' h => by cases h), fun cs h => by injection h with h; rw [← h]; exact hy⟩
  have recs : ∀ n s g, d = .recs n s g → (∀ k ys, d = .ints k ys → ys.length ≤ m) ∧ ∀ cs, d = .list cs → cs.length ≤ m := by
    rintro n s g rfl
    exact ⟨(fun k' ys' h => by cases h), fun cs h => by cases h⟩
  unfold vsrc at e
  split at e
  · simp only [Option.some.injEq, Prod.mk.injEq] at e
    exact list [] (by simp) e.2.symm
  · split at e
    · simp only [Option.some.injEq, Prod.mk.injEq] at e
      exact ints _ _ (by rw [List.length_take]; omega) e.2.symm
    · cases e
  · split at e
    · rename_i hs
      simp only [Option.some.injEq, Prod.mk.injEq] at e
      exact list _ (by rw [List.length_take, hs]; omega) e.2.symm
    · cases e
  · split at e
    · simp only [Option.some.injEq, Prod.mk.injEq] at e
      exact recs _ _ _ e.2.symm
    · cases e
  · split at e
    · rename_i hs
      split at e
      · split at e
        · first
            | (simp only [Option.some.injEq, Prod.mk.injEq] at e
               exact ints _ _ (by rw [List.length_take]; omega) e.2.symm)
            | (split at e
               · simp only [Option.some.injEq, Prod.mk.injEq] at e
                 exact ints _ _ (by rw [List.length_take]; omega) e.2.symm
               · cases e)
        · simp only [Option.some.injEq, Prod.mk.injEq] at e
          exact list _ (by rw [List.length_take, hs]; omega) e.2.symm
        · split at e
          · simp only [Option.some.injEq, Prod.mk.injEq] at e
            exact recs _ _ _ e.2.symm
          · cases e
        · cases e
        · cases e
      · cases e
    · cases e
  · split at e
    · simp only [Option.some.injEq, Prod.mk.injEq] at e
      exact ints _ _ (by rw [← e.1]; simp only [bys, List.length_map, Array.length_toList]; exact Nat.le_refl _) e.2.symm
    · cases e
  · split at e
    · simp only [Option.some.injEq, Prod.mk.injEq] at e
      exact ints _ _ (by omega) e.2.symm
    · cases e
  · cases e
theorem ok_str {h : Heap} {c r : V} (e : vstr h c = some r) (hh : hok h) (hc : c.ok) : r.ok := by
  unfold vstr at e
  split at e
  · cases e
  · cases e
  · split at e
    · rename_i m ys hs
      injection e with e; subst e
      have h1 := (ok_src hs hh hc).2
      have h2 := (src_len hs).1 _ _ rfl
      exact ⟨by rw [List.length_map]; omega, fun x hx => by obtain ⟨y, _, rfl⟩ := List.mem_map.1 hx; exact b8_in y⟩
    · rename_i m cs hs
      split at e
      · rename_i ys hy
        injection e with e; subst e
        have h1 := (ok_src hs hh hc).2
        have h2 := (src_len hs).2 _ rfl
        have h3 := asInts_len hy
        exact ⟨by rw [List.length_map]; omega, fun x hx => by obtain ⟨y, _, rfl⟩ := List.mem_map.1 hx; exact b8_in y⟩
      · cases e
    · cases e
theorem ok_bys {h : Heap} {id : Nat} {e : TypeId} {c r : V} {h' : Heap} (ee : vbys h id e c = some (r, h')) (hh : hok h) (hc : c.ok) : r.ok ∧ hok h' := by
  unfold vbys at ee
  split at ee
  · split at ee
    · simp only [Option.some.injEq, Prod.mk.injEq] at ee
      obtain ⟨rfl, rfl⟩ := ee
      exact ⟨by have hc : _ < _ := hc; show _ ≤ lenM; unfold lenM; omega, ok_newg hh _ _ _ fun x hx => byte_in (bys_in _ x hx)⟩
    · simp only [Option.some.injEq, Prod.mk.injEq] at ee
      obtain ⟨rfl, rfl⟩ := ee
      exact ⟨hc.1, ok_newg hh _ _ _ fun x hx => byte_in (hc.2 x hx)⟩
    · cases ee
  · cases ee
theorem ok_mark {h : Heap} {c r : V} (e : vmark h c = some r) (hc : c.ok) : r.ok := by
  unfold vmark at e
  split at e
  · split at e
    · split at e
      · injection e with e; subst e; exact hc
      · cases e
    · cases e
  · cases e
theorem ok_nil {h : Heap} {c r : V} (e : vnil h c = some r) (hc : c.ok) : r.ok := by
  unfold vnil at e
  repeat' split at e
  all_goals first
    | (injection e with e; subst e; first | trivial | exact hc)
    | cases e
theorem ok_pick {a b c r : V} (e : vpick a b c = some r) (hb : b.ok) (hc : c.ok) : r.ok := by
  unfold vpick at e
  repeat' split at e
  all_goals first
    | (injection e with e; subst e; first | trivial | exact hb | exact hc | (rename_i t k p k' q hk; subst hk; cases t <;> first | exact hb | exact hc))
    | cases e
theorem mapOf_okk {h : Heap} {c : V} {id : Nat} {b : Blk} {k : IntKind} {es : List (Bool × Int)} (e : mapOf h c = some (id, b, k, es)) (hh : hok h) : ∀ p ∈ es, inR k p.2 := by
  unfold mapOf at e
  split at e
  case h_2 => cases e
  split at e
  case h_2 => cases e
  rename_i b' hb
  split at e
  case h_2 => cases e
  split at e
  case h_2 => cases e
  rename_i k' es' hd
  simp only [Option.some.injEq, Prod.mk.injEq] at e
  obtain ⟨rfl, rfl, rfl, rfl⟩ := e
  have := hh b' (List.mem_of_getElem? hb)
  rw [hd] at this
  exact this
theorem sel_in {k : IntKind} (b : Bool) : ∀ es : List (Bool × Int), (∀ p ∈ es, inR k p.2) → inR k (selK b es)
  | [], _ => zero_in k
  | (true, n) :: l, h => by
    cases b
    · exact sel_in false l fun p hp => h p (List.mem_cons_of_mem _ hp)
    · exact h (true, n) (by simp)
  | (false, n) :: l, h => by
    cases b
    · exact h (false, n) (by simp)
    · exact sel_in true l fun p hp => h p (List.mem_cons_of_mem _ hp)
theorem ok_mnew {P : Program} {h : Heap} {id : Nat} {t : TypeId} {r : V} {h' : Heap} (e : vnewm P h id t = some (r, h')) (hh : hok h) : r.ok ∧ hok h' := by
  unfold vnewm at e
  split at e
  · split at e
    · simp only [Option.some.injEq, Prod.mk.injEq] at e; obtain ⟨rfl, rfl⟩ := e
      exact ⟨trivial, hh.set _ (fun p hp => by cases hp)⟩
    · cases e
  · cases e
theorem ok_mins {P : Program} {h h' : Heap} {t : TypeId} {m k c : V} (e : vins P h t m k c = some h') (hh : hok h) (hc : c.ok) : hok h' := by
  unfold vins at e
  split at e
  case h_2 => cases e
  rename_i hm
  split at e
  case h_2 => cases e
  split at e
  case isFalse => cases e
  rename_i hcc
  injection e with e; subst e
  refine hh.set _ fun p hp => ?_
  rcases List.mem_append.1 hp with q | q
  · exact mapOf_okk hm hh p q
  · rw [List.mem_singleton] at q
    subst q
    rw [hcc.1]
    exact hc
theorem ok_mlook {P : Program} {h : Heap} {t : TypeId} {m k r : V} (e : vlook P h t m k = some r) (hh : hok h) : r.ok := by
  unfold vlook at e
  split at e
  case h_2 => cases e
  rename_i hm
  split at e
  case h_2 => cases e
  split at e
  case h_2 => cases e
  injection e with e; subst e
  exact sel_in _ _ (mapOf_okk hm hh)
theorem opv_okk {P : Program} {h : Heap} {id : Nat} {e : Operand → V} {op : Op} {r : V} {h' : Heap} (ho : opv P h id e op = some (r, h')) (hh : hok h) (he : ∀ o, (e o).ok) : r.ok ∧ hok h' := by
  have quiet : ∀ {X : Option V}, (X.bind fun z => some (z, h)) = some (r, h') → (∀ r, X = some r → r.ok) → r.ok ∧ hok h' := fun {X} hx hr => by
    obtain ⟨h1, rfl⟩ := bind_pair hx
    exact ⟨hr _ h1, hh⟩
  have parts : ∀ (ps : Array (Nat × Operand)), ∀ p ∈ (ps.toList.map fun p => (p.1, e p.2)), p.2.ok := fun ps p hp => by
    obtain ⟨q, _, rfl⟩ := List.mem_map.1 hp
    exact he _
  cases op with
  | move a => simp only [opv, Option.some.injEq, Prod.mk.injEq] at ho; obtain ⟨rfl, rfl⟩ := ho; exact ⟨he a, hh⟩
  | assign a => simp only [opv, Option.some.injEq, Prod.mk.injEq] at ho; obtain ⟨rfl, rfl⟩ := ho; exact ⟨he a, hh⟩
  | pick c a b => exact quiet ho fun r hr => ok_pick hr (he a) (he b)
  | alloc t =>
    simp only [opv] at ho
    split at ho
    · cases hz : zcells P t with
      | none => simp [hz] at ho
      | some cs =>
        simp only [hz, Option.bind_some, Option.some.injEq, Prod.mk.injEq] at ho
        obtain ⟨rfl, rfl⟩ := ho
        exact ⟨trivial, ok_newg hh _ _ _ (ok_mkD (ok_zcells hz))⟩
    · cases ho
  | box t a =>
    simp only [opv] at ho
    split at ho
    · cases hz : vcells (e a) with
      | none => simp [hz] at ho
      | some cs =>
        simp only [hz, Option.bind_some] at ho
        split at ho
        · simp only [Option.some.injEq, Prod.mk.injEq] at ho
          obtain ⟨rfl, rfl⟩ := ho
          exact ⟨trivial, ok_newg hh _ _ _ (ok_mkD (ok_cells (he a) hz))⟩
        · cases ho
    · cases ho
  | build t ps => exact quiet ho fun r hr => ok_build hr (parts ps)
  | buildSlice t n ps => exact ok_buildSlice ho hh (parts ps)
  | load t a => exact quiet ho fun r hr => ok_loadAt hr hh (he a)
  | store t a c =>
    simp only [opv] at ho
    cases hs : vstoreAt P h t (e a) (e c) with
    | none => simp [hs] at ho
    | some g =>
      simp only [hs, Option.bind_some, Option.some.injEq, Prod.mk.injEq] at ho
      obtain ⟨rfl, rfl⟩ := ho
      exact ⟨trivial, ok_storeAt hs hh (he c)⟩
  | nilCheck a => exact quiet ho fun r hr => ok_nil hr (he a)
  | binOp op t a b t2 => exact quiet ho fun r hr => ok_binx hr (ok_wk (he a)) (ok_wk (he b))
  | unOp op t a => exact quiet ho fun r hr => ok_un hr (he a)
  | convert s d a =>
    simp only [opv] at ho
    split at ho
    · exact quiet ho fun r hr => ok_str hr hh (he a)
    · split at ho
      · split at ho
        · exact ok_bys ho hh (he a)
        · cases ho
      · split at ho
        · exact quiet ho fun r hr => ok_mark hr (he a)
        · exact quiet ho fun r hr => ok_conv hr (he a)
  | makeSlice t l c =>
    simp only [opv] at ho
    split at ho
    · exact ok_make ho hh
    · cases ho
  | makeFunc k first caps =>
    cases k with
    | func f =>
      simp only [opv] at ho
      split at ho
      · simp only [Option.some.injEq, Prod.mk.injEq] at ho
        obtain ⟨rfl, rfl⟩ := ho
        exact ⟨oks_iff.2 fun c hc => by obtain ⟨o, _, rfl⟩ := List.mem_map.1 hc; exact he o, hh⟩
      · cases ho
    | _ => simp [opv] at ho
  | slice t a lo hi mx => exact quiet ho fun r hr => ok_slice hr (he a)
  | fieldAddr s a f => exact quiet ho fun r hr => ok_fieldAddr hr (he a)
  | field s a f => exact quiet ho fun r hr => ok_field hr (he a)
  | indexAddr t a i => exact quiet ho fun r hr => ok_indexAddr hr (he a)
  | index t a i => exact quiet ho fun r hr => ok_index hr (he a)
  | extract a i => exact quiet ho fun r hr => ok_extract hr (he a)
  | call c =>
    obtain ⟨callee, as, ts⟩ := c
    cases callee with
    | builtin b =>
      cases b with
      | len =>
        simp only [opv] at ho
        split at ho
        · rename_i a t has hts
          exact quiet ho fun r hr => ok_len hr (he a)
        · cases ho
      | min =>
        simp only [opv] at ho
        split at ho
        · rename_i k m l hl
          have hall : oks (.i k m :: l) := by rw [← hl]; exact oks_iff.2 fun c hc => by obtain ⟨o, _, rfl⟩ := List.mem_map.1 hc; exact he o
          exact quiet ho fun r hr => ok_min' hr hall.1 hall.2
        · cases ho
      | max =>
        simp only [opv] at ho
        split at ho
        · rename_i k m l hl
          have hall : oks (.i k m :: l) := by rw [← hl]; exact oks_iff.2 fun c hc => by obtain ⟨o, _, rfl⟩ := List.mem_map.1 hc; exact he o
          exact quiet ho fun r hr => ok_max' hr hall.1 hall.2
        · cases ho
      | append =>
        simp only [opv] at ho
        split at ho
        · exact ok_append ho hh (he _) (he _)
        · cases ho
      | _ => simp [opv] at ho
    | _ => simp [opv] at ho
  | makeMap t rr => cases rr with
    | none => exact ok_mnew ho hh
    | some _ => cases ho
  | insert t m k c =>
    simp only [opv] at ho
    cases hz : vins P h t (e m) (e k) (e c) with
    | none => simp [hz] at ho
    | some h2 =>
      simp only [hz, Option.bind_some, Option.some.injEq, Prod.mk.injEq] at ho; obtain ⟨rfl, rfl⟩ := ho
      exact ⟨trivial, ok_mins hz hh (he _)⟩
  | lookup t m k ok => cases ok with
    | false => exact quiet ho fun r hr => ok_mlook hr hh
    | true => cases ho
  | _ => simp [opv] at ho
theorem ok_fzl {f : TypeId → V → Option (V × List Nat)} (hf : ∀ t c r i, f t c = some (r, i) → c.ok → r.ok) (all : List TypeId) : ∀ (ts : List TypeId) (cs rs : List V) (i : List Nat), fzl f all ts cs = some (rs, i) → oks cs → oks rs
  | _, [], rs, i, h, _ => by simp [fzl] at h; obtain ⟨rfl, rfl⟩ := h; trivial
  | [], c :: cs, rs, i, h, hc => by
    simp only [fzl] at h
    cases all with
    | nil => simp at h
    | cons t ts =>
      simp only at h
      split at h
      · rename_i e1 e2
        simp only [Option.some.injEq, Prod.mk.injEq] at h; obtain ⟨rfl, rfl⟩ := h
        exact ⟨hf _ _ _ _ e1 hc.1, ok_fzl hf (t :: ts) ts cs _ _ e2 hc.2⟩
      · cases h
  | t :: ts, c :: cs, rs, i, h, hc => by
    simp only [fzl] at h
    split at h
    · rename_i e1 e2
      simp only [Option.some.injEq, Prod.mk.injEq] at h; obtain ⟨rfl, rfl⟩ := h
      exact ⟨hf _ _ _ _ e1 hc.1, ok_fzl hf all ts cs _ _ e2 hc.2⟩
    · cases h
theorem ok_fzc {P : Program} {h : Heap} (hh : hok h) : ∀ (d : Nat) (t : TypeId) (c r : V) (i : List Nat), fzc P h d t c = some (r, i) → c.ok → r.ok
  | 0, _, _, _, _, e, _ => by simp [fzc] at e
  | d + 1, t, c, r, i, e, hc => by
    have hb : (if bareOk c = true then some (c, ([] : List Nat)) else none) = some (r, i) → r.ok := fun e => by
      split at e
      · simp only [Option.some.injEq, Prod.mk.injEq] at e; obtain ⟨rfl, _⟩ := e; exact hc
      · cases e
    cases c with
    | own id gen off n sz =>
      simp only [fzc] at e
      split at e
      · cases e
      · rename_i b hb'
        have hd := hh.at hb'
        have hn : n ≤ lenM := hc
        split at e
        · rename_i he; rw [he] at hd
          split at e
          · simp only [Option.some.injEq, Prod.mk.injEq] at e; obtain ⟨rfl, _⟩ := e
            exact ⟨hn, fun x hx => hd x (List.mem_of_mem_drop hx)⟩
          · cases e
        · rename_i cs he; rw [he] at hd
          split at e
          · split at e
            · rename_i hf
              simp only [Option.some.injEq, Prod.mk.injEq] at e; obtain ⟨rfl, _⟩ := e
              exact ⟨hn, ok_fzl (fun t c r i h1 h2 => ok_fzc hh d t c r i h1 h2) _ _ _ _ _ hf (oks.drop hd _)⟩
            · cases e
          · cases e
        · rename_i he; rw [he] at hd
          split at e
          · simp only [Option.some.injEq, Prod.mk.injEq] at e; obtain ⟨rfl, _⟩ := e
            exact ⟨hn, fun j => by rw [shift_at]; exact hd _⟩
          · cases e
        · cases e
        · cases e
    | nils =>
      simp only [fzc] at e
      repeat' split at e
      all_goals first
        | (simp only [Option.some.injEq, Prod.mk.injEq] at e; obtain ⟨rfl, _⟩ := e; first | exact ⟨by unfold lenM; omega, fun x hx => by cases hx⟩ | exact ⟨by unfold lenM; omega, trivial⟩)
        | cases e
    | ref id gen off =>
      simp only [fzc] at e
      split at e
      · cases e
      · rename_i b hb'
        have hd := hh.at hb'
        split at e
        · rename_i he; rw [he] at hd
          simp only [Option.some.injEq, Prod.mk.injEq] at e; obtain ⟨rfl, _⟩ := e
          exact oks.drop (oks_ints hd) _
        · rename_i he; rw [he] at hd
          split at e
          · rename_i hf
            simp only [Option.some.injEq, Prod.mk.injEq] at e; obtain ⟨rfl, _⟩ := e
            exact oks.drop (ok_fzl (fun t c r i h1 h2 => ok_fzc hh d t c r i h1 h2) _ _ _ _ _ hf hd) _
          · cases e
        · cases e
        · cases e
        · cases e
    | fn f caps =>
      simp only [fzc] at e
      split at e
      · rename_i hf
        simp only [Option.some.injEq, Prod.mk.injEq] at e; obtain ⟨rfl, _⟩ := e
        exact ok_fzl (fun t c r i h1 h2 => ok_fzc hh d t c r i h1 h2) _ _ _ _ _ hf hc
      · cases e
    | _ => exact hb (by simpa [fzc] using e)
theorem ok_fzv {P : Program} {h : Heap} (hh : hok h) {t : TypeId} {c r : V} {i : List Nat} (e : fzv P h t c = some (r, i)) (hc : c.ok) : r.ok := by
  cases c with
  | agg cs =>
    simp only [fzv] at e
    split at e
    · rename_i hf
      simp only [Option.some.injEq, Prod.mk.injEq] at e; obtain ⟨rfl, _⟩ := e
      exact ok_fzl (fun t c r i h1 h2 => ok_fzc hh 6 t c r i h1 h2) _ _ _ _ _ hf hc
    · cases e
  | _ => exact ok_fzc hh 6 t _ r i (by simpa only [fzv] using e) hc
abbrev Rn := Nat → Nat → Option (Nat × Nat)
mutual
def rn (σ : Rn) : V → V
  | .ref id g off => match σ id g with
    | some (i, k) => .ref i k off
    | none => .u
  | .rrf id g row sz fld => match σ id g with
    | some (i, k) => .rrf i k row sz fld
    | none => .u
  | .mref id g => match σ id g with
    | some (i, k) => .mref i k
    | none => .u
  | .own id g off n sz => match σ id g with
    | some (i, k) => .own i k off n sz
    | none => .u
  | .agg cs => .agg (rns σ cs)
  | .tup cs => .tup (rns σ cs)
  | .fn f cs => .fn f (rns σ cs)
  | c => c
def rns (σ : Rn) : List V → List V
  | [] => []
  | c :: cs => rn σ c :: rns σ cs
end
def rnD (σ : Rn) : D → D
  | .list cs => .list (rns σ cs)
  | .mix pre k xs => .mix (rns σ pre) k xs
  | d => d
theorem rns_length (σ : Rn) : ∀ cs : List V, (rns σ cs).length = cs.length
  | [] => rfl
  | c :: cs => by simp [rns, rns_length σ cs]
theorem rnD_length (σ : Rn) (d : D) : (rnD σ d).toV.length = d.toV.length := by
  cases d with
  | list cs => exact rns_length σ cs
  | mix pre k xs => simp only [rnD, D.toV, List.length_append, rns_length]
  | _ => rfl
theorem rnD_mpq (σ : Rn) (d : D) : (rnD σ d).mpq = d.mpq := by cases d <;> rfl
theorem rnD_bm {σ : Rn} {d : D} {k : IntKind} {es : List (Bool × Int)} (h : rnD σ d = .bm k es) : d = .bm k es := by
  cases d <;> first | exact h | cases h
mutual
theorem ok_rn (σ : Rn) : ∀ c : V, c.ok → (rn σ c).ok
  | .ref id g off, _ => by simp only [rn]; split <;> trivial
  | .rrf id g row sz fld, _ => by simp only [rn]; split <;> trivial
  | .mref id g, _ => by simp only [rn]; split <;> trivial
  | .own id g off n sz, h => by
    simp only [rn]; split
    · exact h
    · trivial
  | .agg cs, h => ok_rns σ cs h
  | .tup cs, h => ok_rns σ cs h
  | .fn f cs, h => ok_rns σ cs h
  | .u, h => h | .b _, h => h | .i _ _, h => h | .s _, h => h | .sl _ _ _, h => h | .si _ _ _, h => h | .sr _ _ _, h => h | .nils, h => h | .pl _, h => h | .nilp, h => h | .st _, h => h | .nilf, h => h
theorem ok_rns (σ : Rn) : ∀ cs : List V, oks cs → oks (rns σ cs)
  | [], _ => trivial
  | c :: cs, h => ⟨ok_rn σ c h.1, ok_rns σ cs h.2⟩
end
theorem ok_rnD {σ : Rn} {d : D} (h : d.ok) : (rnD σ d).ok := by
  cases d with
  | list cs => exact ok_rns σ cs h
  | mix pre k xs => exact ⟨ok_rns σ pre h.1, h.2⟩
  | _ => exact h
mutual
def nofz : V → Bool
  | .sl _ _ _ => false
  | .si _ _ _ => false
  | .sr _ _ _ => false
  | .pl _ => false
  | .agg cs => nofzs cs
  | .tup cs => nofzs cs
  | .fn _ cs => nofzs cs
  | _ => true
def nofzs : List V → Bool
  | [] => true
  | c :: cs => match nofz c with
    | true => nofzs cs
    | false => false
end
def nofzD : D → Bool
  | .list cs => nofzs cs
  | .ints _ _ => true
  | .recs _ _ _ => false
  | .mix pre _ _ => nofzs pre
  | .bm _ _ => true
structure Rl (σ : Rn) (x y : Cx) : Prop where
  w : y.w = x.w
  P : y.P = x.P
  at_ : ∀ id g i k, σ id g = some (i, k) → ∃ b b', x.h[id]? = some b ∧ b.gen = g ∧ 0 < g ∧ y.h[i]? = some b' ∧ b'.gen = k ∧ 0 < k ∧ b.cs.length ≤ b'.cs.length ∧ (¬ x.ph id → ¬ y.ph i ∧ y.ρ i = x.ρ id)
theorem bareR {x y : Cx} (hP : y.P = x.P) (hw : y.w = x.w) (hav : ∀ n, n < x.w.heap.size → ¬ x.av n → ¬ y.av n) : Mono x.bare y.bare :=
  ⟨hP, fun id b hb => by simp [Cx.bare] at hb, fun n hn ha => ⟨hav n hn ha, by simp [Cx.bare, hw]⟩, by simp [Cx.bare, hw]⟩
theorem frozen_mono {x y : Cx} (h : Mono x.bare y.bare) {c : V} (hb : bareOk c = true) {v : Value} (hv : VR x c v) : VR y c v := ((VR_bareOk hb hv).mono h).mono (Mono.unbare y)
mutual
theorem rn_ok {σ : Rn} {x y : Cx} (hR : Rl σ x y) : ∀ (c : V) (v : Value), (nofz c = true ∨ Mono x.bare y.bare) → VR x c v → VR y (rn σ c) v
  | .ref id g off, v, _, h => by
    simp only [rn]
    split
    · rename_i i k hs
      obtain ⟨b, b', h1, h2, h3, h4, h5, h6, h7, h8⟩ := hR.at_ id g i k hs
      obtain ⟨ho, bk, g1, _, g3⟩ := h
      rw [h1] at g1; injection g1 with g1; subst g1
      obtain ⟨q1, q2⟩ := g3 h2.symm h3
      obtain ⟨p1, p2⟩ := h8 q1
      exact ⟨ho, b', h4, by omega, fun _ _ => ⟨p1, by rw [p2]; exact q2⟩⟩
    · trivial
  | .mref id g, v, _, h => by
    simp only [rn]
    split
    · rename_i i k hs
      obtain ⟨b, b', h1, h2, h3, h4, h5, h6, h7, h8⟩ := hR.at_ id g i k hs
      obtain ⟨ho, bk, g1, _, g3⟩ := h
      rw [h1] at g1; injection g1 with g1; subst g1
      obtain ⟨q1, q2⟩ := g3 h2.symm h3
      obtain ⟨p1, p2⟩ := h8 q1
      exact ⟨ho, b', h4, by omega, fun _ _ => ⟨p1, by rw [p2]; exact q2⟩⟩
    · trivial
  | .rrf id g row sz fld, v, _, h => by
    simp only [rn]
    split
    · rename_i i k hs
      obtain ⟨b, b', h1, h2, h3, h4, h5, h6, h7, h8⟩ := hR.at_ id g i k hs
      obtain ⟨ho, bk, g1, _, g3⟩ := h
      rw [h1] at g1; injection g1 with g1; subst g1
      obtain ⟨q1, q2⟩ := g3 h2.symm h3
      obtain ⟨p1, p2⟩ := h8 q1
      exact ⟨ho, b', h4, by omega, fun _ _ => ⟨p1, by rw [p2]; exact q2⟩⟩
    · trivial
  | .own id g off n sz, v, _, h => by
    simp only [rn]
    split
    · rename_i i k hs
      obtain ⟨b, b', h1, h2, h3, h4, h5, h6, h7, h8⟩ := hR.at_ id g i k hs
      obtain ⟨ho, bk, g1, _, g3⟩ := h
      rw [h1] at g1; injection g1 with g1; subst g1
      obtain ⟨a, cap, q1, q2, q3, q4⟩ := g3 h2.symm h3
      refine ⟨ho, b', h4, by omega, fun _ _ => ⟨a, cap, q1, q2, q3, ?_⟩⟩
      rcases q4 with q4 | ⟨r1, o, r2, r3, r4⟩
      · exact .inl q4
      · obtain ⟨p1, p2⟩ := h8 r1
        exact .inr ⟨p1, o, by rw [p2]; exact r2, r3.imp (fun z => z) (fun z => Nat.le_trans z h7), r4.imp (fun z => z) fun ⟨z, el, tot, z1, z2⟩ => ⟨z, el, tot, by rw [p2, hR.w]; exact z1, z2⟩⟩
    · trivial
  | .agg cs, v, hn, h => by
    obtain ⟨l, hl, hs⟩ := h
    exact ⟨l, hl, rns_ok hR cs l (by simpa only [nofz] using hn) hs⟩
  | .tup cs, v, hn, h => by
    obtain ⟨l, hl, hs⟩ := h
    exact ⟨l, hl, rns_ok hR cs l (by simpa only [nofz] using hn) hs⟩
  | .fn f cs, v, hn, h => by
    obtain ⟨l, hl, hs⟩ := h
    exact ⟨l, hl, rns_ok hR cs l (by simpa only [nofz] using hn) hs⟩
  | .sl n sz cs, v, hn, h => frozen_mono (hn.resolve_left (by simp [nofz])) rfl h
  | .si n k xs, v, hn, h => frozen_mono (hn.resolve_left (by simp [nofz])) rfl h
  | .sr n sz g, v, hn, h => frozen_mono (hn.resolve_left (by simp [nofz])) rfl h
  | .pl cs, v, hn, h => frozen_mono (hn.resolve_left (by simp [nofz])) rfl h
  | .u, _, _, _ => trivial
  | .b _, _, _, h => h
  | .i _ _, _, _, h => h
  | .s _, _, _, h => h
  | .st _, _, _, h => h
  | .nils, _, _, h => h
  | .nilp, _, _, h => h
  | .nilf, _, _, h => h
theorem rns_ok {σ : Rn} {x y : Cx} (hR : Rl σ x y) : ∀ (cs : List V) (l : List Value), (nofzs cs = true ∨ Mono x.bare y.bare) → VRs x cs l → VRs y (rns σ cs) l
  | [], _, _, h => h
  | c :: cs, _, hn, h => by
    obtain ⟨v, vs, hl, hv, hs⟩ := h
    refine ⟨v, vs, hl, rn_ok hR c v (hn.imp (fun z => ?_) (fun z => z)) hv, rns_ok hR cs vs (hn.imp (fun z => ?_) (fun z => z)) hs⟩
    · simp only [nofzs] at z
      split at z
      · assumption
      · cases z
    · simp only [nofzs] at z
      split at z
      · exact z
      · cases z
end
theorem VRs.split {x : Cx} : ∀ {a b : List V} {l : List Value}, VRs x (a ++ b) l → ∃ l1 l2, l = l1 ++ l2 ∧ VRs x a l1 ∧ VRs x b l2
  | [], b, l, h => ⟨[], l, rfl, rfl, h⟩
  | c :: a, b, l, h => by
    obtain ⟨v, vs, rfl, h1, h2⟩ := h
    obtain ⟨l1, l2, rfl, h3, h4⟩ := VRs.split h2
    exact ⟨v :: l1, l2, rfl, ⟨v, l1, rfl, h1, h3⟩, h4⟩
theorem rnD_ok {σ : Rn} {x y : Cx} (hR : Rl σ x y) {d : D} {l : List Value} (hn : nofzD d = true ∨ Mono x.bare y.bare) (h : VRs x d.toV l) (hg : good x d l) : VRs y (rnD σ d).toV l ∧ good y (rnD σ d) l := by
  cases d with
  | list cs => exact ⟨rns_ok hR cs l hn h, trivial⟩
  | ints k xs =>
    simp only [rnD, D.toV] at h ⊢
    rw [h.ints]
    exact ⟨VRs.of_ints y k xs, trivial⟩
  | recs n s g =>
    have hm := hn.resolve_left (by simp [nofzD])
    exact ⟨(hg.2.mono hm).mono (Mono.unbare y), hg.1, hg.2.mono hm⟩
  | mix pre k xs =>
    simp only [rnD, D.toV] at h ⊢
    obtain ⟨l1, l2, rfl, h1, h2⟩ := VRs.split h
    rw [h2.ints]
    exact ⟨(rns_ok hR pre l1 hn h1).append (VRs.of_ints y k xs), trivial⟩
  | bm => exact hg.elim
mutual
def hv : V → List Nat
  | .ref id _ _ => [id]
  | .rrf id _ _ _ _ => [id]
  | .mref id _ => [id]
  | .own id _ _ _ _ => [id]
  | .agg cs => hvs cs
  | .tup cs => hvs cs
  | .fn _ cs => hvs cs
  | _ => []
def hvs : List V → List Nat
  | [] => []
  | c :: cs => hv c ++ hvs cs
end
def hvD : D → List Nat
  | .list cs => hvs cs
  | .mix pre _ _ => hvs pre
  | _ => []
def memN (n : Nat) : List Nat → Bool
  | [] => false
  | m :: l => match Nat.beq n m with
    | true => true
    | false => memN n l
theorem memN_iff {n : Nat} : ∀ {l : List Nat}, memN n l = true ↔ n ∈ l
  | [] => by simp [memN]
  | m :: l => by
    simp only [memN]
    cases hb : Nat.beq n m with
    | true => simp [Nat.eq_of_beq_eq_true hb]
    | false => simp [memN_iff, Nat.ne_of_beq_eq_false hb]
def dedup : List Nat → List Nat → List Nat
  | acc, [] => acc
  | acc, n :: l => match memN n acc with
    | true => dedup acc l
    | false => dedup (acc ++ [n]) l
def behind (h : Heap) : List Nat → List Nat
  | [] => []
  | i :: l => match h[i]? with
    | some b => hvD b.d ++ behind h l
    | none => behind h l
def reach (h : Heap) : Nat → List Nat → List Nat
  | 0, ids => ids
  | n + 1, ids => reach h n (dedup ids (behind h ids))
theorem dedup_sub : ∀ (l acc : List Nat), ∀ n ∈ acc, n ∈ dedup acc l
  | [], _, _, h => h
  | m :: l, acc, n, h => by
    simp only [dedup]
    split
    · exact dedup_sub l acc n h
    · exact dedup_sub l _ n (by simp [h])
theorem dedup_nodup : ∀ (l acc : List Nat), acc.Nodup → (dedup acc l).Nodup
  | [], _, h => h
  | m :: l, acc, h => by
    simp only [dedup]
    split
    · exact dedup_nodup l acc h
    · rename_i hm
      refine dedup_nodup l _ (List.nodup_append.2 ⟨h, by simp, fun a ha b hb => ?_⟩)
      have hb : b = m := by simpa using hb
      rintro rfl
      subst hb
      have := memN_iff.2 ha
      rw [hm] at this; cases this
theorem reach_nodup (h : Heap) : ∀ (n : Nat) (ids : List Nat), ids.Nodup → (reach h n ids).Nodup
  | 0, _, hn => hn
  | n + 1, ids, hn => reach_nodup h n _ (dedup_nodup _ _ hn)
def sig1 (h : Heap) (ids : List Nat) : Rn := fun id g => match cur h id g with
  | true => match ids.idxOf? id with
    | some j => some (j, 1)
    | none => none
  | false => none
def hand (h : Heap) (σ : Rn) : List Nat → Option Heap
  | [] => some []
  | i :: l => match h[i]? with
    | some b => match decide (0 < b.gen) && b.wr with
      | true => match hand h σ l with
        | some r => some (⟨1, b.elem, rnD σ b.d, true⟩ :: r)
        | none => none
      | false => none
    | none => none
def fzA (P : Program) (h : Heap) (σ : Rn) : List Bool → List TypeId → List V → Option (List V × List Nat)
  | _, _, [] => some ([], [])
  | ms, ts, c :: cs => match fzA P h σ ms.tail ts.tail cs with
    | some (rs, i2) => match ms with
      | true :: _ => some (rn σ c :: rs, i2)
      | _ => match fzv P h (ts.headD 0) c with
        | some (r, i1) => some (r :: rs, i1 ++ i2)
        | none => none
    | none => none
def byRef : List Bool → List V → List Nat
  | true :: ms, c :: cs => hv c ++ byRef ms cs
  | _ :: ms, _ :: cs => byRef ms cs
  | _, _ => []
def latch (h : Heap) (F : List Nat) : Heap := match F with
  | [] => h
  | F => h.mapIdx fun j b => if F.contains j then { b with wr := false } else b
def upd2 (f : Nat → Blk → Blk) : Nat → Heap → Heap
  | _, [] => []
  | j, b :: l => f j b :: upd2 f (j + 1) l
theorem upd2_get (f : Nat → Blk → Blk) : ∀ (l : Heap) (k i : Nat), (upd2 f k l)[i]? = (l[i]?).map (f (k + i))
  | [], k, i => by simp [upd2]
  | b :: l, k, 0 => by simp [upd2]
  | b :: l, k, i + 1 => by
    simp only [upd2, List.getElem?_cons_succ]
    rw [upd2_get f l (k + 1) i]
    congr 2; omega
def newgen (G g : Nat) : Nat := match g with
  | 1 => G
  | _ => G + 1
def gen1 (g : Nat) : Nat := match g with
  | 0 => 0
  | _ => 1
def sig2 (h h' : Heap) (ids : List Nat) (id0 : Nat) : Rn := fun j g => match cur h' j g with
  | true => match ids[j]? with
    | some i => match h[i]? with
      | some b => some (i, newgen b.gen g)
      | none => none
    | none => some (id0 + (j - ids.length), 1)
  | false => none
def newBlk (σ : Rn) (h' : Heap) (ids : List Nat) (id0 i : Nat) (b : Blk) : Blk := match ids.idxOf? i with
  | some j => match h'[j]? with
    | some c => ⟨newgen b.gen c.gen, c.elem, rnD σ c.d, true⟩
    | none => b
  | none => match decide (id0 ≤ i) && decide (i < id0 + (h'.length - ids.length)) with
    | true => match h'[ids.length + (i - id0)]? with
      | some c => ⟨gen1 c.gen, c.elem, rnD σ c.d, true⟩
      | none => b
    | false => b
def wbH (σ : Rn) (H : Heap) (h' : Heap) (ids : List Nat) (id0 : Nat) : Heap := match ids, h' with
  | [], [] => H
  | _, _ => upd2 (newBlk σ h' ids id0) 0 H
theorem wbH_get (σ : Rn) (H h' : Heap) (ids : List Nat) (id0 i : Nat) : (wbH σ H h' ids id0)[i]? = (H[i]?).map (newBlk σ h' ids id0 i) := by
  unfold wbH
  split
  · have : ∀ b, newBlk σ [] [] id0 i b = b := fun b => by simp [newBlk]; split <;> rfl
    cases hH : H[i]? with
    | none => rfl
    | some b => simp [this]
  · rw [upd2_get]; simp
def allWr : Heap → Bool
  | [] => true
  | b :: l => match b.gen with
    | 0 => allWr l
    | _ => match b.wr with
      | true => allWr l
      | false => false
theorem allWr_spec : ∀ {l : Heap}, allWr l = true → ∀ b ∈ l, 0 < b.gen → b.wr = true
  | [], _, b, hb, _ => by cases hb
  | a :: l, h, b, hb, hg => by
    simp only [allWr] at h
    rcases List.mem_cons.1 hb with e | e
    · subst e
      split at h
      · omega
      · split at h
        · assumption
        · cases h
    · refine allWr_spec (l := l) ?_ b e hg
      split at h
      · exact h
      · split at h
        · exact h
        · cases h
def blanksAt (h : Heap) : Nat → Nat → Bool
  | 0, _ => true
  | n + 1, id => match blank h id with
    | true => blanksAt h n (id + 1)
    | false => false
theorem blanksAt_spec {h : Heap} : ∀ {n id : Nat}, blanksAt h n id = true → ∀ j, j < n → blank h (id + j) = true
  | 0, _, _, j, hj => by omega
  | n + 1, id, hb, j, hj => by
    simp only [blanksAt] at hb
    split at hb
    · rename_i h0
      cases j with
      | zero => exact h0
      | succ j =>
        have := blanksAt_spec hb j (by omega)
        rwa [show id + 1 + j = id + (j + 1) by omega] at this
    · cases hb
def allNofz : Heap → Bool
  | [] => true
  | b :: l => match nofzD b.d with
    | true => allNofz l
    | false => false
theorem allNofz_spec : ∀ {l : Heap}, allNofz l = true → ∀ b ∈ l, nofzD b.d = true
  | [], _, b, hb => by cases hb
  | a :: l, h, b, hb => by
    simp only [allNofz] at h
    split at h
    · rename_i h0
      rcases List.mem_cons.1 hb with e | e
      · subst e; exact h0
      · exact allNofz_spec h b e
    · cases h
def disj : List Nat → List Nat → Bool
  | [], _ => true
  | n :: l, ids => match memN n ids with
    | true => false
    | false => disj l ids
theorem disj_spec : ∀ {l ids : List Nat}, disj l ids = true → ∀ n ∈ l, n ∉ ids
  | [], _, _, n, hn => by cases hn
  | m :: l, ids, h, n, hn => by
    simp only [disj] at h
    split at h
    · cases h
    · rename_i hm
      rcases List.mem_cons.1 hn with e | e
      · subst e
        intro hi
        have := memN_iff.2 hi
        rw [hm] at this; cases this
      · exact disj_spec h n e
def wb (h : Heap) (id0 : Nat) (ids F : List Nat) (nf : Nat) (r : V) (h' : Heap) : Option (V × Heap) :=
  match Nat.ble ids.length h'.length && (Nat.ble (h'.length - ids.length) nf && (allWr h' && blanksAt h (h'.length - ids.length) id0)) with
  | true => match nofz r && allNofz h' with
    | true => some (rn (sig2 h h' ids id0) r, wbH (sig2 h h' ids id0) h h' ids id0)
    | false => some (rn (sig2 h h' ids id0) r, wbH (sig2 h h' ids id0) (latch h F) h' ids id0)
  | false => none
theorem latch_get (h : Heap) (F : List Nat) (j : Nat) : (latch h F)[j]? = (h[j]?).map fun b => if F.contains j then { b with wr := false } else b := by
  cases F with
  | nil => simp [latch]
  | cons => simp [latch, List.getElem?_mapIdx]
theorem latch_cs (b : Blk) (c : Bool) : (if c = true then { b with wr := false } else b).cs = b.cs := by cases c <;> rfl
theorem latch_gen (b : Blk) (c : Bool) : (if c = true then { b with wr := false } else b).gen = b.gen := by cases c <;> rfl
theorem latch_elem (b : Blk) (c : Bool) : (if c = true then { b with wr := false } else b).elem = b.elem := by cases c <;> rfl
theorem latch_d (b : Blk) (c : Bool) : (if c = true then { b with wr := false } else b).d = b.d := by cases c <;> rfl
def Cx.inF (x : Cx) (F : List Nat) (n : Nat) : Prop := ∃ id ∈ F, ∃ b, x.h[id]? = some b ∧ x.lv id b ∧ x.ρ id = n
def Cx.sub (x : Cx) (F ids : List Nat) (hc : Heap) : Cx :=
  { P := x.P, w := x.w, ρ := fun j => x.ρ (ids.getD j 0), h := hc, av := fun n => x.av n ∧ ¬ x.inF F n, ph := fun j => x.ph (ids.getD j 0) }
theorem hand_get {h : Heap} {σ : Rn} : ∀ {ids : List Nat} {hc : Heap}, hand h σ ids = some hc → hc.length = ids.length ∧ ∀ (j i : Nat), ids[j]? = some i → ∃ b : Blk, h[i]? = some b ∧ 0 < b.gen ∧ b.wr = true ∧ hc[j]? = some (⟨1, b.elem, rnD σ b.d, true⟩ : Blk)
  | [], hc, h => by simp [hand] at h; subst h; exact ⟨rfl, fun j i hj => by simp at hj⟩
  | i :: l, hc, h => by
    simp only [hand] at h
    split at h
    · rename_i b hb
      split at h
      · rename_i hw
        simp only [Bool.and_eq_true, decide_eq_true_eq] at hw
        split at h
        · rename_i r hr
          injection h with h; subst h
          obtain ⟨k1, k2⟩ := hand_get hr
          refine ⟨by simp [k1], fun j i' hj => ?_⟩
          cases j with
          | zero => simp at hj; subst hj; exact ⟨b, hb, hw.1, hw.2, rfl⟩
          | succ j => obtain ⟨b', q⟩ := k2 j i' (by simpa using hj); exact ⟨b', by simpa using q⟩
        · cases h
      · cases h
    · cases h
theorem idx_some {ids : List Nat} {i j : Nat} (h : ids.idxOf? i = some j) : ids[j]? = some i := by
  rw [List.idxOf?, List.findIdx?_eq_some_iff_getElem] at h
  obtain ⟨h1, h2, _⟩ := h
  rw [List.getElem?_eq_getElem h1]
  simpa using h2
theorem idx_of {ids : List Nat} (hn : ids.Nodup) {i j : Nat} (h : ids[j]? = some i) : ids.idxOf? i = some j := by
  cases hx : ids.idxOf? i with
  | none =>
    rw [List.idxOf?_eq_none_iff] at hx
    exact absurd (List.mem_of_getElem? h) hx
  | some k =>
    have hk := idx_some hx
    have := (List.getElem?_inj (l := ids) (List.getElem?_eq_some_iff.1 hk).1 hn).1 (by rw [hk, h] : ids[k]? = ids[j]?)
    rw [this]
theorem sub_rl {x : Cx} {F ids : List Nat} {hc : Heap} (hh : hand x.h (sig1 x.h ids) ids = some hc) : Rl (sig1 x.h ids) x (x.sub F ids hc) := by
  refine ⟨rfl, rfl, fun id g i k hs => ?_⟩
  unfold sig1 at hs
  split at hs
  · rename_i hcur
    split at hs
    · rename_i j hj
      injection hs with hs; injection hs with h1 h2; subst h1 h2
      have hij := idx_some hj
      obtain ⟨b, hb, hg, hw, hcj⟩ := (hand_get hh).2 _ _ hij
      have hcur' := hcur
      unfold cur at hcur'
      rw [hb] at hcur'
      simp at hcur'
      refine ⟨b, _, hb, hcur'.1, by omega, hcj, rfl, by omega, by simp only [Blk.cs, rnD_length]; exact Nat.le_refl _, fun hp => ?_⟩
      have e : ids.getD j 0 = id := by rw [List.getD_eq_getElem?_getD, hij]; rfl
      exact ⟨by simp only [Cx.sub]; rw [e]; exact hp, by simp only [Cx.sub]; rw [e]⟩
    · cases hs
  · cases hs
theorem sub_bare {x : Cx} (hx : HR x) {F ids : List Nat} {hc : Heap} : Mono x.bare (x.sub F ids hc).bare := bareR rfl rfl fun n _ hn k => hn k.1
theorem sub_hr {x : Cx} (hx : HR x) {F ids : List Nat} {hc : Heap} (hn : ids.Nodup) (hd : disj F ids = true) (hh : hand x.h (sig1 x.h ids) ids = some hc) : HR (x.sub F ids hc) := by
  have hR := sub_rl (F := F) hh
  obtain ⟨hlen, hget⟩ := hand_get hh
  have at_ : ∀ j c, hc[j]? = some c → ∃ i b, ids[j]? = some i ∧ x.h[i]? = some b ∧ 0 < b.gen ∧ b.wr = true ∧ c = ⟨1, b.elem, rnD (sig1 x.h ids) b.d, true⟩ ∧ ids.getD j 0 = i := by
    intro j c hj
    have hlt : j < ids.length := by have := (List.getElem?_eq_some_iff.1 hj).1; omega
    obtain ⟨b, h1, h2, h3, h4⟩ := hget j _ (List.getElem?_eq_getElem hlt)
    rw [hj] at h4; injection h4 with h4
    exact ⟨_, b, List.getElem?_eq_getElem hlt, h1, h2, h3, h4, by rw [List.getD_eq_getElem?_getD, List.getElem?_eq_getElem hlt]; rfl⟩
  refine ⟨fun j c hj hl hm => ?_, fun j c k es hj hl hdm => ?_, fun j j' c c' hj hl hj' hl' hρ => ?_, fun n hn => ?_, fun n hn => hx.avlt n hn.1, fun j c hj hl => ?_⟩
  · obtain ⟨i, b, h1, h2, h3, h4, rfl, h5⟩ := at_ j c hj
    have hp : ¬ x.ph i := by have := hl.2; simp only [Cx.sub, h5] at this; exact this
    obtain ⟨cs, lo, hi, k1, k2, k3, k4, k5⟩ := hx.blk i b h2 ⟨h3, hp⟩ (by rw [← rnD_mpq (sig1 x.h ids)]; exact hm)
    obtain ⟨q1, q2⟩ := rnD_ok hR (.inr (sub_bare hx)) k3 k5
    refine ⟨cs, lo, hi, by simp only [Cx.sub, h5]; exact k1, k2, ?_, k4, ?_⟩
    · simp only [Blk.cs, rnD_length]; exact q1
    · simp only [Blk.cs, rnD_length]; exact q2
  · obtain ⟨i, b, h1, h2, h3, h4, rfl, h5⟩ := at_ j c hj
    have hp : ¬ x.ph i := by have := hl.2; simp only [Cx.sub, h5] at this; exact this
    simp only [Cx.sub, h5]
    exact hx.mps i b k es h2 ⟨h3, hp⟩ (rnD_bm hdm)
  · obtain ⟨i, b, h1, h2, h3, h4, rfl, h5⟩ := at_ j c hj
    obtain ⟨i', b', h1', h2', h3', h4', rfl, h5'⟩ := at_ j' c' hj'
    have hp : ¬ x.ph i := by have := hl.2; simp only [Cx.sub, h5] at this; exact this
    have hp' : ¬ x.ph i' := by have := hl'.2; simp only [Cx.sub, h5'] at this; exact this
    simp only [Cx.sub, h5, h5'] at hρ
    have e := hx.inj i i' b b' h2 ⟨h3, hp⟩ h2' ⟨h3', hp'⟩ hρ
    subst e
    have := idx_of hn h1
    rw [idx_of hn h1'] at this
    injection this with this
    exact this.symm
  · obtain ⟨j, c, hj, hl, hw, hρ⟩ := hn
    obtain ⟨i, b, h1, h2, h3, h4, rfl, h5⟩ := at_ j c hj
    have hp : ¬ x.ph i := by have := hl.2; simp only [Cx.sub, h5] at this; exact this
    simp only [Cx.sub, h5] at hρ
    refine ⟨hx.ownav n ⟨i, b, h2, ⟨h3, hp⟩, h4, hρ⟩, ?_⟩
    rintro ⟨id, hid, b', hb', hlv', hρ'⟩
    have := hx.inj i id b b' h2 ⟨h3, hp⟩ hb' hlv' (by rw [hρ, hρ'])
    subst this
    exact disj_spec hd i hid (List.mem_of_getElem? h1)
  · obtain ⟨i, b, h1, h2, h3, h4, rfl, h5⟩ := at_ j c hj
    exact .inl rfl
theorem sub_own {x : Cx} {F ids : List Nat} {hc : Heap} (hh : hand x.h (sig1 x.h ids) ids = some hc) {n : Nat} (h : (x.sub F ids hc).own n) : ∃ i ∈ ids, ∃ b, x.h[i]? = some b ∧ x.lv i b ∧ b.wr = true ∧ x.ρ i = n := by
  obtain ⟨j, c, hj, hl, hw, hρ⟩ := h
  obtain ⟨hlen, hget⟩ := hand_get hh
  have hlt : j < ids.length := by have := (List.getElem?_eq_some_iff.1 hj).1; simp only [Cx.sub] at this; omega
  obtain ⟨b, h1, h2, h3, h4⟩ := hget j _ (List.getElem?_eq_getElem hlt)
  have e : ids.getD j 0 = ids[j] := by rw [List.getD_eq_getElem?_getD, List.getElem?_eq_getElem hlt]; rfl
  have hp := hl.2
  simp only [Cx.sub, e] at hp hρ
  exact ⟨_, List.getElem_mem hlt, b, h1, ⟨h2, hp⟩, h3, hρ⟩
def Cx.behind (x y : Cx) (fl : Bool) (F ids : List Nat) (id0 : Nat) (h2 : Heap) : Cx :=
  { P := x.P, w := y.w, ρ := fun i => match ids.idxOf? i with
      | some j => y.ρ j
      | none => if id0 ≤ i ∧ i < id0 + (y.h.length - ids.length) then y.ρ (ids.length + (i - id0)) else x.ρ i
    h := h2, av := fun n => y.av n ∨ (fl = true ∧ x.av n ∧ x.inF F n)
    ph := fun i => match ids.idxOf? i with
      | some j => y.ph j
      | none => if id0 ≤ i ∧ i < id0 + (y.h.length - ids.length) then y.ph (ids.length + (i - id0)) else x.ph i }
theorem behind_ok {x y : Cx} (hx : HR x) {F ids : List Nat} {hc : Heap} (hn : ids.Nodup) (hd : disj F ids = true) (hh : hand x.h (sig1 x.h ids) ids = some hc) (hto : To (x.sub F ids hc) y) (hyP : y.P = x.P) {id0 : Nat} {fl : Bool}
    (hlen : ids.length ≤ y.h.length) (hwr : allWr y.h = true) (hbl : blanksAt x.h (y.h.length - ids.length) id0 = true) (hfl : fl = true → allNofz y.h = true) {H0 : Heap} (hH0 : H0 = if fl = true then x.h else latch x.h F) :
    To x (x.behind y fl F ids id0 (wbH (sig2 x.h y.h ids id0) H0 y.h ids id0)) ∧ Rl (sig2 x.h y.h ids id0) y (x.behind y fl F ids id0 (wbH (sig2 x.h y.h ids id0) H0 y.h ids id0)) ∧ (fl = false → Mono y.bare (x.behind y fl F ids id0 (wbH (sig2 x.h y.h ids id0) H0 y.h ids id0)).bare) := by
  generalize hz : x.behind y fl F ids id0 (wbH (sig2 x.h y.h ids id0) H0 y.h ids id0) = z
  generalize hσ : sig2 x.h y.h ids id0 = σ at hz
  have zP : z.P = x.P := by rw [← hz]; rfl
  have zw : z.w = y.w := by rw [← hz]; rfl
  have zh : z.h = wbH σ H0 y.h ids id0 := by rw [← hz]; rfl
  have zav : z.av = fun n => y.av n ∨ (fl = true ∧ x.av n ∧ x.inF F n) := by rw [← hz]; rfl
  have H0get : ∀ i, H0[i]? = (x.h[i]?).map fun b => if (!fl && F.contains i) = true then { b with wr := false } else b := fun i => by
    rw [hH0]
    cases fl with
    | true => simp
    | false => simp [latch_get]
  have H0gen : ∀ i b0, H0[i]? = some b0 → ∃ b, x.h[i]? = some b ∧ b0.gen = b.gen ∧ b0.elem = b.elem ∧ b0.d = b.d ∧ b0 = if (!fl && F.contains i) = true then { b with wr := false } else b := fun i b0 h0 => by
    rw [H0get] at h0
    cases hb : x.h[i]? with
    | none => rw [hb] at h0; cases h0
    | some b =>
      rw [hb] at h0
      simp only [Option.map_some, Option.some.injEq] at h0
      subst h0
      exact ⟨b, rfl, latch_gen b _, latch_elem b _, latch_d b _, rfl⟩
  obtain ⟨hclen, hcget⟩ := hand_get hh
  have hblank : ∀ i, id0 ≤ i → i < id0 + (y.h.length - ids.length) → ∃ b, x.h[i]? = some b ∧ b.gen = 0 := fun i h1 h2 => by
    have := blanksAt_spec hbl (i - id0) (by omega)
    rw [show id0 + (i - id0) = i by omega] at this
    unfold blank at this
    split at this
    · rename_i b hb; exact ⟨b, hb, by simpa using this⟩
    · cases this
  have hidsgen : ∀ i j, ids.idxOf? i = some j → ∃ b, x.h[i]? = some b ∧ 0 < b.gen ∧ b.wr = true := fun i j h => by
    obtain ⟨b, h1, h2, h3, _⟩ := hcget j i (idx_some h)
    exact ⟨b, h1, h2, h3⟩
  let K : Nat → Nat → Prop := fun i jj => ids.idxOf? i = some jj ∨ (ids.idxOf? i = none ∧ (id0 ≤ i ∧ i < id0 + (y.h.length - ids.length)) ∧ jj = ids.length + (i - id0))
  have Kinj : ∀ i i' jj, K i jj → K i' jj → i = i' := by
    rintro i i' jj (h | ⟨_, h1, h2⟩) (h' | ⟨_, h1', h2'⟩)
    · have a := idx_some h; have b := idx_some h'; rw [a] at b; exact Option.some.inj b
    · have := (List.getElem?_eq_some_iff.1 (idx_some h)).1; omega
    · have := (List.getElem?_eq_some_iff.1 (idx_some h')).1; omega
    · omega
  have Kρ : ∀ i jj, K i jj → z.ρ i = y.ρ jj ∧ z.ph i = y.ph jj := by
    rintro i jj (h | ⟨h0, h1, h2⟩)
    · rw [← hz]; simp only [Cx.behind, h]; exact ⟨trivial, trivial⟩
    · rw [← hz, h2]; simp only [Cx.behind, h0, if_pos h1]; exact ⟨trivial, trivial⟩
  have Klen : ∀ i jj, K i jj → jj < y.h.length := by
    rintro i jj (h | ⟨h0, h1, h2⟩)
    · have := (List.getElem?_eq_some_iff.1 (idx_some h)).1; omega
    · omega
  have notK : ∀ i, (∀ jj, ¬ K i jj) → ids.idxOf? i = none ∧ ¬ (id0 ≤ i ∧ i < id0 + (y.h.length - ids.length)) := fun i h => by
    cases hi : ids.idxOf? i with
    | some j => exact absurd (.inl hi) (h j)
    | none => exact ⟨rfl, fun h1 => h _ (.inr ⟨hi, h1, rfl⟩)⟩
  have Cρ : ∀ i, (∀ jj, ¬ K i jj) → z.ρ i = x.ρ i ∧ z.ph i = x.ph i := fun i h => by
    obtain ⟨h1, h2⟩ := notK i h
    rw [← hz]; simp only [Cx.behind, h1, if_neg h2]; exact ⟨trivial, trivial⟩
  have zget : ∀ i c, z.h[i]? = some c → ∃ b, x.h[i]? = some b ∧
      ((∃ jj d, K i jj ∧ y.h[jj]? = some d ∧ c.elem = d.elem ∧ c.d = rnD σ d.d ∧ c.wr = true ∧ (0 < c.gen → 0 < d.gen) ∧ ((∃ j, ids.idxOf? i = some j ∧ 0 < b.gen ∧ b.wr = true ∧ c.gen = newgen b.gen d.gen) ∨ (ids.idxOf? i = none ∧ b.gen = 0 ∧ c.gen = gen1 d.gen))) ∨
       ((∀ jj, ¬ K i jj) ∧ c = if (!fl && F.contains i) = true then { b with wr := false } else b)) := fun i c hi => by
    rw [zh, wbH_get] at hi
    cases h0 : H0[i]? with
    | none => rw [h0] at hi; cases hi
    | some b0 =>
      rw [h0] at hi
      simp only [Option.map_some, Option.some.injEq] at hi
      obtain ⟨b, hb, g1, g2, g3, g4⟩ := H0gen i b0 h0
      refine ⟨b, hb, ?_⟩
      unfold newBlk at hi
      split at hi
      · rename_i j hj
        obtain ⟨b', k1, k2, k3⟩ := hidsgen i j hj
        rw [hb] at k1; injection k1 with k1; subst k1
        have hlt : j < y.h.length := Klen i j (.inl hj)
        rw [List.getElem?_eq_getElem hlt] at hi
        simp only at hi
        subst hi
        refine .inl ⟨j, _, .inl hj, List.getElem?_eq_getElem hlt, rfl, rfl, rfl, fun hg => ?_, .inl ⟨j, hj, k2, k3, by rw [g1]⟩⟩
        obtain ⟨b2, l1, l2, l3, l4⟩ := hcget j i (idx_some hj)
        obtain ⟨b3, m1, m2, _⟩ := hto.ext.mono.gens j _ (by simpa [Cx.sub] using l4)
        rw [List.getElem?_eq_getElem hlt] at m1; injection m1 with m1; subst m1
        simp only at m2; omega
      · rename_i hj
        split at hi
        · rename_i hr
          simp only [Bool.and_eq_true, decide_eq_true_eq] at hr
          have hlt : ids.length + (i - id0) < y.h.length := by omega
          rw [List.getElem?_eq_getElem hlt] at hi
          simp only at hi
          subst hi
          obtain ⟨b', k1, k2⟩ := hblank i hr.1 hr.2
          rw [hb] at k1; injection k1 with k1; subst k1
          refine .inl ⟨_, _, .inr ⟨hj, hr, rfl⟩, List.getElem?_eq_getElem hlt, rfl, rfl, rfl, fun hg => ?_, .inr ⟨hj, k2, rfl⟩⟩
          simp only [gen1] at hg
          split at hg
          · omega
          · rename_i h0; exact Nat.pos_of_ne_zero h0
        · rename_i hr
          simp only [Bool.and_eq_false_iff, decide_eq_false_iff_not] at hr
          subst hi
          refine .inr ⟨?_, g4⟩
          rintro jj (h | ⟨_, h1, _⟩)
          · rw [hj] at h; cases h
          · omega
  have lvK : ∀ i c jj d, z.h[i]? = some c → K i jj → y.h[jj]? = some d → z.lv i c → (0 < c.gen → 0 < d.gen) → y.lv jj d := fun i c jj d hi hK hjj hl hg => ⟨hg hl.1, by rw [← (Kρ i jj hK).2]; exact hl.2⟩
  have lvC : ∀ i b c, (∀ jj, ¬ K i jj) → (c = if (!fl && F.contains i) = true then { b with wr := false } else b) → z.lv i c → x.lv i b := fun i b c hK hc hl => by
    subst hc
    exact ⟨by have := hl.1; rwa [latch_gen] at this, by rw [← (Cρ i hK).2]; exact hl.2⟩
  have notown : ∀ i b, (∀ jj, ¬ K i jj) → x.h[i]? = some b → x.lv i b → ¬ (x.sub F ids hc).own (x.ρ i) := fun i b hK hb hl ho => by
    obtain ⟨i', hi', b', hb', hl', _, hρ⟩ := sub_own hh ho
    have := hx.inj i' i b' b hb' hl' hb hl hρ
    subst this
    obtain ⟨j, hj⟩ := List.getElem?_of_mem hi'
    exact hK j (.inl (idx_of hn hj))
  have subown : ∀ n, (x.sub F ids hc).own n → x.own n := fun n ho => by
    obtain ⟨i, _, b, h1, h2, h3, h4⟩ := sub_own hh ho
    exact ⟨i, b, h1, h2, h3, h4⟩
  have yown : ∀ jj d, y.h[jj]? = some d → y.lv jj d → y.own (y.ρ jj) := fun jj d h1 h2 => ⟨jj, d, h1, h2, allWr_spec hwr d (List.mem_of_getElem? h1) h2.1, rfl⟩
  have ylow : ∀ n, n < x.w.heap.size → y.own n → (x.sub F ids hc).own n := fun n hlt ho => Classical.byContradiction fun hno => (hto.ext.heap n hlt hno).1 ho
  have same : ∀ n, n < x.w.heap.size → ¬ (x.sub F ids hc).own n → y.w.heap[n]? = x.w.heap[n]? := fun n hlt hno => (hto.ext.heap n hlt hno).2
  have inFown : ∀ n, x.inF F n → x.own n ∨ ¬ x.av n := by
    rintro n ⟨i, _, b, h1, h2, h3⟩
    rcases hx.safe i b h1 h2 with h | h
    · exact .inl ⟨i, b, h1, h2, h, h3⟩
    · exact .inr (h3 ▸ h)
  have keepav : ∀ n, n < x.w.heap.size → x.av n → ¬ x.own n → y.av n := fun n hlt ha ho => by
    refine hto.ext.keep n hlt ⟨ha, fun hf => ?_⟩ fun k => ho (subown n k)
    rcases inFown n hf with h | h
    · exact ho h
    · exact h ha
  have zown : ∀ n, z.own n → (∃ jj d, y.h[jj]? = some d ∧ y.lv jj d ∧ y.ρ jj = n) ∨ (∃ i b, (∀ jj, ¬ K i jj) ∧ x.h[i]? = some b ∧ x.lv i b ∧ b.wr = true ∧ x.ρ i = n ∧ (!fl && F.contains i) = false) := by
    rintro n ⟨i, c, h1, h2, h3, h4⟩
    obtain ⟨b, hb, hc⟩ := zget i c h1
    rcases hc with ⟨jj, d, hK, hjj, _, _, _, hg, _⟩ | ⟨hK, hc⟩
    · exact .inl ⟨jj, d, hjj, lvK i c jj d h1 hK hjj h2 hg, by rw [← (Kρ i jj hK).1]; exact h4⟩
    · refine .inr ⟨i, b, hK, hb, lvC i b c hK hc h2, ?_, by rw [← (Cρ i hK).1]; exact h4, ?_⟩
      · cases hq : (!fl && F.contains i) with
        | true => rw [hc, hq, if_pos rfl] at h3; cases h3
        | false => rw [hc, hq, if_neg (by simp)] at h3; exact h3
      · cases hq : (!fl && F.contains i) with
        | true => rw [hc, hq, if_pos rfl] at h3; cases h3
        | false => rfl
  have mono : Mono x z := by
    refine ⟨zP, fun i b hb => ?_, fun n hlt ha => ?_, by rw [zw]; exact hto.ext.mono.size⟩
    · have hlt0 : i < z.h.length := by
        have h1 := wbH_get σ H0 y.h ids id0 i
        rw [← zh, H0get, hb] at h1
        exact (List.getElem?_eq_some_iff.1 h1).1
      obtain ⟨b', hb', hc⟩ := zget i _ (List.getElem?_eq_getElem hlt0)
      rw [hb] at hb'; injection hb' with hb'; subst hb'
      refine ⟨_, List.getElem?_eq_getElem hlt0, ?_⟩
      rcases hc with ⟨jj, d, hK, hjj, _, hcd, _, hg, hgen⟩ | ⟨hK, hc⟩
      · rcases hgen with ⟨j, hj, hb0, hbw, hcg⟩ | ⟨hj, hb0, hcg⟩
        · have : jj = j := by
            rcases hK with h | ⟨h, _⟩
            · rw [hj] at h; exact (Option.some.inj h).symm
            · rw [hj] at h; cases h
          subst this
          rw [hcg]
          unfold newgen
          obtain ⟨b2, l1, l2, l3, l4⟩ := hcget jj i (idx_some hj)
          rw [hb] at l1; injection l1 with l1; subst l1
          obtain ⟨b3, m1, m2, m3⟩ := hto.ext.mono.gens jj _ (by simpa [Cx.sub] using l4)
          rw [hjj] at m1; injection m1 with m1; subst m1
          split
          · rename_i hd1
            refine ⟨Nat.le_refl _, fun _ hl => ?_⟩
            have e : ids.getD jj 0 = i := by rw [List.getD_eq_getElem?_getD, idx_some hj]; rfl
            obtain ⟨q1, q2, q3, q4⟩ := m3 hd1.symm ⟨Nat.one_pos, by simp only [Cx.sub, e]; exact hl.2⟩
            simp only [Cx.sub, e] at q2 q3
            obtain ⟨r1, r2⟩ := Kρ i jj hK
            refine ⟨by rw [r2]; exact q1, by rw [r1]; exact q2, by rw [r1, zw]; exact q3, ?_⟩
            simp only [Blk.cs, hcd, rnD_length] at q4 ⊢
            exact q4
          · exact ⟨by omega, fun he => by omega⟩
        · exact ⟨by omega, fun _ hl => by have := hl.1; omega⟩
      · rw [hc, latch_gen]
        refine ⟨Nat.le_refl _, fun _ hl => ?_⟩
        obtain ⟨r1, r2⟩ := Cρ i hK
        refine ⟨by rw [r2]; exact hl.2, r1, ?_, by rw [latch_cs]; exact Nat.le_refl _⟩
        rw [r1, zw]
        unfold World.shape?
        rw [same _ (hx.lt hb hl) (notown i b hK hb hl)]
    · have h1 := hto.ext.mono.blocks n hlt fun k => ha k.1
      refine ⟨?_, by rw [zw]; exact h1.2⟩
      rw [zav]
      rintro (h | h)
      · exact h1.1 h
      · exact ha h.2.1
  have hRl : Rl σ y z := by
    refine ⟨zw, zP.trans hyP.symm, fun jj g i k hs => ?_⟩
    rw [← hσ] at hs
    unfold sig2 at hs
    split at hs
    · rename_i hcur
      unfold cur at hcur
      split at hcur
      · rename_i d hjj
        simp only [Bool.and_eq_true, beq_iff_eq, decide_eq_true_eq] at hcur
        have fin : ∀ hK : K i jj, (∀ c, z.h[i]? = some c → c.gen = k) → 0 < k → (∃ c, z.h[i]? = some c) → ∃ b b', y.h[jj]? = some b ∧ b.gen = g ∧ 0 < g ∧ z.h[i]? = some b' ∧ b'.gen = k ∧ 0 < k ∧ b.cs.length ≤ b'.cs.length ∧ (¬ y.ph jj → ¬ z.ph i ∧ z.ρ i = y.ρ jj) := by
          rintro hK hk1 hk0 ⟨c, hc⟩
          obtain ⟨b, hb, hcc⟩ := zget i c hc
          rcases hcc with ⟨jj', d', hK', hjj', _, hcd, _, _, _⟩ | ⟨hK', _⟩
          · have : jj' = jj := by
              rcases hK with h | ⟨h0, h1, h2⟩ <;> rcases hK' with h' | ⟨h0', h1', h2'⟩
              · rw [h] at h'; exact (Option.some.inj h').symm
              · rw [h] at h0'; cases h0'
              · rw [h0] at h'; cases h'
              · omega
            subst this
            rw [hjj] at hjj'; injection hjj' with hjj'; subst hjj'
            obtain ⟨r1, r2⟩ := Kρ i jj' hK
            exact ⟨d, c, hjj, hcur.1, by omega, hc, hk1 c hc, hk0, by simp only [Blk.cs, hcd, rnD_length]; exact Nat.le_refl _, fun hp => ⟨by rw [r2]; exact hp, r1⟩⟩
          · exact absurd hK (hK' jj)
        have ex : ∀ i b, x.h[i]? = some b → ∃ c, z.h[i]? = some c := fun i b hb => by
          have h1 := wbH_get σ H0 y.h ids id0 i
          rw [← zh, H0get, hb] at h1
          exact ⟨_, h1⟩
        split at hs
        · rename_i i0 hi0
          have hidx := idx_of hn hi0
          obtain ⟨b0, l1, l2, l3, l4⟩ := hcget jj i0 hi0
          rw [l1] at hs
          simp only [Option.some.injEq, Prod.mk.injEq] at hs
          obtain ⟨rfl, rfl⟩ := hs
          refine fin (.inl hidx) (fun c hc => ?_) (by unfold newgen; split <;> omega) (ex _ _ l1)
          obtain ⟨b, hb, hcc⟩ := zget i0 c hc
          rw [l1] at hb; injection hb with hb; subst hb
          rcases hcc with ⟨jj', d', hK', hjj', _, _, _, _, hgen⟩ | ⟨hK', _⟩
          · rcases hgen with ⟨j, hj, _, _, hcg⟩ | ⟨hj, _, _⟩
            · have : jj' = jj := by
                rcases hK' with h | ⟨h, _⟩
                · rw [hidx] at h; exact (Option.some.inj h).symm
                · rw [hidx] at h; cases h
              subst this
              rw [hjj] at hjj'; injection hjj' with hjj'; subst hjj'
              rw [hcg, hcur.1]
            · rw [hidx] at hj; cases hj
          · exact absurd (.inl hidx) (hK' jj)
        · rename_i hi0
          injection hs with hs; injection hs with h1 h2
          have hge : ids.length ≤ jj := by
            rcases Nat.lt_or_ge jj ids.length with h | h
            · rw [List.getElem?_eq_getElem h] at hi0; cases hi0
            · exact h
          have hjlt : jj < y.h.length := (List.getElem?_eq_some_iff.1 hjj).1
          have hir : id0 ≤ i ∧ i < id0 + (y.h.length - ids.length) := by omega
          obtain ⟨b0, k1, k2⟩ := hblank i hir.1 hir.2
          have hnone : ids.idxOf? i = none := by
            cases hi : ids.idxOf? i with
            | none => rfl
            | some j =>
              obtain ⟨b', q1, q2, _⟩ := hidsgen i j hi
              rw [k1] at q1; injection q1 with q1; subst q1; omega
          have hKK : K i jj := .inr ⟨hnone, hir, by omega⟩
          refine fin hKK (fun c hc => ?_) (by omega) (ex _ _ k1)
          obtain ⟨b, hb, hcc⟩ := zget i c hc
          rcases hcc with ⟨jj', d', hK', hjj', _, _, _, _, hgen⟩ | ⟨hK', _⟩
          · rcases hgen with ⟨j, hj, _, _, hcg⟩ | ⟨hj, _, hcg⟩
            · rw [hnone] at hj; cases hj
            · have : jj' = jj := by
                rcases hK' with h | ⟨_, _, h⟩
                · rw [hnone] at h; cases h
                · omega
              subst this
              rw [hjj] at hjj'; injection hjj' with hjj'; subst hjj'
              rw [hcg]
              unfold gen1
              split
              · omega
              · exact h2
          · exact absurd hKK (hK' jj)
      · cases hcur
    · cases hs
  have hbm : fl = false → Mono y.bare z.bare := fun hf => bareR (zP.trans hyP.symm) zw fun n hlt hna => by
    rw [zav]
    rintro (h | h)
    · exact hna h
    · rw [hf] at h; cases h.1
  refine ⟨⟨⟨mono, fun n hlt ho => ?_, fun n hlt ha ho => ?_⟩, ⟨fun i c hi hl hm => ?_, fun i c k es hi hl hdm => ?_, fun i i' c c' hi hl hi' hl' hρ => ?_, fun n hn => ?_, fun n hn => ?_, fun i c hi hl => ?_⟩, ?_⟩, hRl, hbm⟩
  · refine ⟨fun hz => ?_, by rw [zw]; exact same n hlt fun k => ho (subown n k)⟩
    rcases zown n hz with ⟨jj, d, h1, h2, h3⟩ | ⟨i, b, _, h1, h2, h3, h4, _⟩
    · exact ho (subown n (ylow n hlt (h3 ▸ yown jj d h1 h2)))
    · exact ho ⟨i, b, h1, h2, h3, h4⟩
  · rw [zav]; exact .inl (keepav n hlt ha ho)
  · obtain ⟨b, hb, hcc⟩ := zget i c hi
    rcases hcc with ⟨jj, d, hK, hjj, he, hcd, _, hg, _⟩ | ⟨hK, hc⟩
    · have hly := lvK i c jj d hi hK hjj hl hg
      obtain ⟨cs, lo, hi', k1, k2, k3, k4, k5⟩ := hto.hr.blk jj d hjj hly (by rw [hcd, rnD_mpq] at hm; exact hm)
      have hno : nofzD d.d = true ∨ Mono y.bare z.bare := by
        cases hf : fl with
        | true => exact .inl (allNofz_spec (hfl hf) d (List.mem_of_getElem? hjj))
        | false => exact .inr (hbm hf)
      obtain ⟨q1, q2⟩ := rnD_ok hRl hno k3 k5
      refine ⟨cs, lo, hi', by rw [zw, (Kρ i jj hK).1, he]; exact k1, k2, ?_, k4, ?_⟩
      · simp only [Blk.cs, hcd, rnD_length]; exact q1
      · simp only [Blk.cs, hcd, rnD_length]; exact q2
    · have hlx := lvC i b c hK hc hl
      obtain ⟨cs, lo, hi', k1, k2, k3, k4, k5⟩ := hx.blk i b hb hlx (by rw [hc, latch_d] at hm; exact hm)
      rw [hc, latch_cs, latch_elem, latch_d]
      refine ⟨cs, lo, hi', ?_, k2, k3.mono mono, k4, k5.mono mono⟩
      rw [zw, (Cρ i hK).1, same _ (hx.lt hb hlx) (notown i b hK hb hlx)]
      exact k1
  · obtain ⟨b, hb, hcc⟩ := zget i c hi
    rcases hcc with ⟨jj, d, hK, hjj, he, hcd, _, hg, _⟩ | ⟨hK, hc⟩
    · have hly := lvK i c jj d hi hK hjj hl hg
      rw [hcd] at hdm
      have := hto.hr.mps jj d k es hjj hly (rnD_bm hdm)
      rw [zw, (Kρ i jj hK).1]
      exact this
    · have hlx := lvC i b c hK hc hl
      rw [hc, latch_d] at hdm
      have := hx.mps i b k es hb hlx hdm
      rw [zw, (Cρ i hK).1]
      exact this.of (same _ (hx.lt hb hlx) (notown i b hK hb hlx))
  · obtain ⟨b, hb, hcc⟩ := zget i c hi
    obtain ⟨b', hb', hcc'⟩ := zget i' c' hi'
    rcases hcc with ⟨jj, d, hK, hjj, _, _, _, hg, _⟩ | ⟨hK, hc⟩ <;> rcases hcc' with ⟨jj', d', hK', hjj', _, _, _, hg', _⟩ | ⟨hK', hc'⟩
    · have h1 := lvK i c jj d hi hK hjj hl hg
      have h2 := lvK i' c' jj' d' hi' hK' hjj' hl' hg'
      rw [(Kρ i jj hK).1, (Kρ i' jj' hK').1] at hρ
      have := hto.hr.inj jj jj' d d' hjj h1 hjj' h2 hρ
      subst this
      exact Kinj i i' jj hK hK'
    · exfalso
      have h1 := lvK i c jj d hi hK hjj hl hg
      have h2 := lvC i' b' c' hK' hc' hl'
      rw [(Kρ i jj hK).1, (Cρ i' hK').1] at hρ
      have := ylow _ (hx.lt hb' h2) (hρ ▸ yown jj d hjj h1)
      exact notown i' b' hK' hb' h2 this
    · exfalso
      have h1 := lvK i' c' jj' d' hi' hK' hjj' hl' hg'
      have h2 := lvC i b c hK hc hl
      rw [(Cρ i hK).1, (Kρ i' jj' hK').1] at hρ
      have := ylow _ (hx.lt hb h2) (hρ ▸ yown jj' d' hjj' h1)
      exact notown i b hK hb h2 this
    · have h1 := lvC i b c hK hc hl
      have h2 := lvC i' b' c' hK' hc' hl'
      rw [(Cρ i hK).1, (Cρ i' hK').1] at hρ
      exact hx.inj i i' b b' hb h1 hb' h2 hρ
  · rw [zav]
    rcases zown n hn with ⟨jj, d, h1, h2, h3⟩ | ⟨i, b, hK, h1, h2, h3, h4, h5⟩
    · exact .inl (hto.hr.ownav n (h3 ▸ yown jj d h1 h2))
    · have hav := hx.ownav n ⟨i, b, h1, h2, h3, h4⟩
      by_cases hf : x.inF F n
      · obtain ⟨i', hi', b', hb', hl', hρ'⟩ := hf
        have := hx.inj i' i b' b hb' hl' h1 h2 (by rw [hρ', h4])
        subst this
        have hcon := List.contains_iff_mem.2 hi'
        rw [hcon, Bool.and_true] at h5
        have hft : fl = true := by cases fl <;> simp at h5 ⊢
        exact .inr ⟨hft, hav, i', hi', b', hb', hl', hρ'⟩
      · exact .inl (hto.ext.keep n (hx.avlt n hav) ⟨hav, hf⟩ (h4 ▸ notown i b hK h1 h2))
  · rw [zw]
    rw [zav] at hn
    rcases hn with h | h
    · exact hto.hr.avlt n h
    · exact Nat.lt_of_lt_of_le (hx.avlt n h.2.1) hto.ext.mono.size
  · obtain ⟨b, hb, hcc⟩ := zget i c hi
    rcases hcc with ⟨jj, d, hK, hjj, _, _, hw, _, _⟩ | ⟨hK, hc⟩
    · exact .inl hw
    · have hlx := lvC i b c hK hc hl
      rw [(Cρ i hK).1, zav]
      cases hq : (!fl && F.contains i) with
      | true =>
        simp only [Bool.and_eq_true, Bool.not_eq_true'] at hq
        refine .inr ?_
        rintro (h | h)
        · exact (hto.ext.mono.blocks _ (hx.lt hb hlx) fun k => k.2 ⟨i, List.contains_iff_mem.1 hq.2, b, hb, hlx, rfl⟩).1 h
        · rw [hq.1] at h; cases h.1
      | false =>
        rw [hc, hq, if_neg (by simp)]
        rcases hx.safe i b hb hlx with h | h
        · exact .inl h
        · refine .inr ?_
          rintro (h' | h')
          · exact (hto.ext.mono.blocks _ (hx.lt hb hlx) fun k => h k.1).1 h'
          · exact h h'.2.1
  · have := hto.beside
    rw [zw]; exact this
def Enters (P : Program) (f : FuncId) : Prop := ∃ fn, P.funcs[f]? = some fn ∧ (fn.name == "runtime.NumGoroutine") = false ∧ fn.body.isNone = false
theorem run_callFunc {P : Program} {f : FuncId} (h : Enters P f) (args : Array Value) (w : World) : (callFunc f args).run P w = .ok (.enter f args) w := by
  obtain ⟨fn, h1, h2, h3⟩ := h
  simp only [callFunc, Sem.run_bind, run_program, Result.andThen_ok, h1, h2, h3, Bool.false_eq_true, if_false, Sem.run_pure]
def CallOk (P : Program) (f : FuncId) (args : List V) (hc : Heap) (Post : V → Heap → Prop) : Prop :=
  Enters P f ∧ ∀ (x : Cx) (us : List Value), x.P = P → x.h = hc → HR x → VRs x args us → oks args → hok hc → Calls P f us.toArray x.w fun e w' => ∃ r h' u y, Post r h' ∧ r.ok ∧ hok h' ∧ e = .returned u ∧ y.w = w' ∧ To x y ∧ y.P = P ∧ y.h = h' ∧ VR y r u
inductive Tr : Type 1 where
  | ret (v : V) (h : Heap)
  | br (b : Bool) (t f : Tr)
  | no
  | bnd {α : Type} (o : Option α) (k : α → Tr)
  | sum {α β : Type} (o : α ⊕ β) (f : α → Tr) (g : β → Tr)
def Tr.run {R : Type} : Tr → (V → Heap → Option R) → Option R
  | .ret v h, k => k v h
  | .br b t f, k => match b with
    | true => t.run k
    | false => f.run k
  | .no, _ => none
  | .bnd o f, k => o.bind fun a => (f a).run k
  | .sum o f g, k => match o with
    | .inl a => (f a).run k
    | .inr b => (g b).run k
def Tr.val (t : Tr) : Option (V × Heap) := t.run fun v h => some (v, h)
theorem Tr.run_eq {R : Type} (k : V → Heap → Option R) : ∀ t : Tr, t.run k = t.val.bind fun p => k p.1 p.2
  | .ret v h => rfl
  | .br true t f => run_eq k t
  | .br false t f => run_eq k f
  | .no => rfl
  | .bnd none f => rfl
  | .bnd (some a) f => run_eq k (f a)
  | .sum (.inl a) f g => run_eq k (f a)
  | .sum (.inr a) f g => run_eq k (g a)
structure Ent where
  md : List Bool
  nf : Nat
  tr : List V → Heap → Tr
abbrev Orc := FuncId → Option Ent
def OrcOk (P : Program) (C : Orc) : Prop := ∀ f en, C f = some en → ∀ args h r h', (en.tr args h).val = some (r, h') → CallOk P f args h fun q k => q = r ∧ k = h'
theorem CallOk.mono {P : Program} {f : FuncId} {args : List V} {hc : Heap} {A B : V → Heap → Prop} (h : CallOk P f args hc A) (hab : ∀ r k, A r k → B r k) : CallOk P f args hc B :=
  ⟨h.1, fun x us h1 h2 h3 h4 h5 h6 => (h.2 x us h1 h2 h3 h4 h5 h6).mono fun _ _ ⟨r, h', u, y, q, rest⟩ => ⟨r, h', u, y, hab r h' q, rest⟩⟩
def callk {R : Type} (P : Program) (C : Orc) (h : Heap) (id : Nat) (e : Operand → V) (c : Call) (k : V → Heap → Option R) : Option R :=
  match c.callee with
  | .value fo => match e fo with
    | .fn f caps => match C f with
      | some en => match reach h 4 (dedup [] (byRef en.md (c.args.toList.map e ++ caps))) with
        | ids => match fzA P h (sig1 h ids) en.md c.argTypes.toList (c.args.toList.map e ++ caps) with
          | some (as, F) => match disj F ids with
            | true => match hand h (sig1 h ids) ids with
              | some hc => (en.tr as hc).run fun r h' => match wb h id ids F en.nf r h' with
                | some (r2, h2) => k r2 h2
                | none => none
              | none => none
            | false => none
          | none => none
      | none => none
    | _ => none
  | _ => none
theorem fzA_ok {x : Cx} (hx : HR x) (hxo : hok x.h) {F ids : List Nat} {hc : Heap} (hR : Rl (sig1 x.h ids) x (x.sub F ids hc)) : ∀ (cs : List V) (ms : List Bool) (ts : List TypeId) (rs : List V) (i : List Nat), fzA x.P x.h (sig1 x.h ids) ms ts cs = some (rs, i) →
    (∀ a ∈ i, a ∈ F) → oks cs → ∀ l, VRs x cs l → VRs (x.sub F ids hc) rs l ∧ oks rs
  | [], ms, ts, rs, i, h, _, _, l, hl => by
    simp [fzA] at h; obtain ⟨rfl, rfl⟩ := h; exact ⟨hl, trivial⟩
  | c :: cs, ms, ts, rs, i, h, hi, ho, l, hl => by
    obtain ⟨v, vs, rfl, h1, h2⟩ := hl
    simp only [fzA] at h
    split at h
    case h_2 => cases h
    rename_i rs' i2 hrec
    have told : ∀ r i1, fzv x.P x.h (ts.headD 0) c = some (r, i1) → (∀ a ∈ i1, a ∈ F) → VR (x.sub F ids hc) r v ∧ r.ok := fun r i1 hf hi1 => by
      refine ⟨?_, ok_fzv hxo hf ho.1⟩
      have := fzv_ok hx (av := fun n => x.av n ∧ ¬ x.inF F n) (fun n hn => hn.1) hf (fun id hid b hb hl hk => hk.2 ⟨id, hi1 id hid, b, hb, hl, rfl⟩) h1
      have hm : Mono (x.out fun n => x.av n ∧ ¬ x.inF F n) (x.sub F ids hc) := ⟨rfl, fun id b hb => by simp [Cx.out] at hb, fun n _ hn => ⟨hn, rfl⟩, Nat.le_refl _⟩
      exact this.mono hm
    split at h
    · simp only [Option.some.injEq, Prod.mk.injEq] at h; obtain ⟨rfl, rfl⟩ := h
      obtain ⟨k1, k2⟩ := fzA_ok hx hxo hR cs _ _ _ _ hrec hi ho.2 vs h2
      exact ⟨⟨v, vs, rfl, rn_ok hR c v (.inr (sub_bare hx)) h1, k1⟩, ok_rn _ c ho.1, k2⟩
    · split at h
      · rename_i r i1 hf
        simp only [Option.some.injEq, Prod.mk.injEq] at h; obtain ⟨rfl, rfl⟩ := h
        obtain ⟨k1, k2⟩ := fzA_ok hx hxo hR cs _ _ _ _ hrec (fun a ha => hi a (List.mem_append_right _ ha)) ho.2 vs h2
        obtain ⟨q1, q2⟩ := told r i1 hf fun a ha => hi a (List.mem_append_left _ ha)
        exact ⟨⟨v, vs, rfl, q1, k1⟩, q2, k2⟩
      · cases h
theorem ok_hand {h : Heap} {σ : Rn} (hh : hok h) : ∀ {ids : List Nat} {hc : Heap}, hand h σ ids = some hc → hok hc
  | [], hc, e => by simp [hand] at e; subst e; intro b hb; cases hb
  | i :: l, hc, e => by
    simp only [hand] at e
    split at e
    · rename_i b hb
      split at e
      · split at e
        · rename_i r hr
          injection e with e; subst e
          intro c hc
          rcases List.mem_cons.1 hc with q | q
          · subst q; exact ok_rnD (hh b (List.mem_of_getElem? hb))
          · exact ok_hand hh hr c q
        · cases e
      · cases e
    · cases e
theorem ok_wbH {σ : Rn} {H h' : Heap} {ids : List Nat} {id0 : Nat} (h1 : hok H) (h2 : hok h') : hok (wbH σ H h' ids id0) := by
  intro c hc
  obtain ⟨i, hi⟩ := List.getElem?_of_mem hc
  rw [wbH_get] at hi
  cases hb : H[i]? with
  | none => rw [hb] at hi; cases hi
  | some b =>
    rw [hb] at hi
    simp only [Option.map_some, Option.some.injEq] at hi
    subst hi
    have hbo := h1 b (List.mem_of_getElem? hb)
    unfold newBlk
    split
    · split
      · rename_i d hd; exact ok_rnD (h2 d (List.mem_of_getElem? hd))
      · exact hbo
    · split
      · split
        · rename_i d hd; exact ok_rnD (h2 d (List.mem_of_getElem? hd))
        · exact hbo
      · exact hbo
theorem ok_latch {h : Heap} (hh : hok h) (F : List Nat) : hok (latch h F) := by
  intro c hc
  obtain ⟨i, hi⟩ := List.getElem?_of_mem hc
  rw [latch_get] at hi
  cases hb : h[i]? with
  | none => rw [hb] at hi; cases hi
  | some b =>
    rw [hb] at hi
    simp only [Option.map_some, Option.some.injEq] at hi
    subst hi
    rw [latch_d]
    exact hh b (List.mem_of_getElem? hb)
theorem callk_ok {x : Cx} (hx : HR x) (hxo : hok x.h) {R : Type} {C : Orc} (hC : OrcOk x.P C) {id : Nat} {e : Operand → V} {ρ : Operand → Value} (he : ∀ o, VR x (e o) (ρ o)) (heo : ∀ o, (e o).ok) {c : Call} {k : V → Heap → Option R} {res : R} (h : callk x.P C x.h id e c k = some res) (ty : TypeId) :
    ∃ (f : FuncId) (as : Array Value), (do let d ← resolve ρ c ty; invoke d.target d.args : Sem Next).run x.P x.w = .ok (.enter f as) x.w ∧
      Calls x.P f as x.w fun e w' => ∃ r h' u y, k r h' = some res ∧ r.ok ∧ hok h' ∧ e = .returned u ∧ y.w = w' ∧ To x y ∧ y.P = x.P ∧ y.h = h' ∧ VR y r u := by
  unfold callk at h
  obtain ⟨callee, cas, cts⟩ := c
  cases callee with
  | value fo =>
    simp only at h
    split at h
    case h_2 => cases h
    rename_i f caps hf
    split at h
    case h_2 => cases h
    rename_i en hen
    generalize hids : reach x.h 4 (dedup [] (byRef en.md (cas.toList.map e ++ caps))) = ids at h
    have hnd : ids.Nodup := by rw [← hids]; exact reach_nodup _ _ _ (dedup_nodup _ _ List.nodup_nil)
    split at h
    case h_2 => cases h
    rename_i as F hfz
    split at h
    case h_2 => cases h
    rename_i hdj
    split at h
    case h_2 => cases h
    rename_i hc hh
    rw [Tr.run_eq] at h
    cases hv : (en.tr as hc).val with
    | none => rw [hv] at h; cases h
    | some p =>
      obtain ⟨r, h'⟩ := p
      rw [hv] at h
      simp only [Option.bind_some] at h
      split at h
      case h_2 => cases h
      rename_i r2 h2 hwb
      obtain ⟨hent, hcall⟩ := hC f en hen as hc r h' hv
      have hfo := he fo
      rw [hf] at hfo
      obtain ⟨l0, hfo, hl0⟩ := hfo
      have hcaps : oks caps := by have := heo fo; rw [hf] at this; exact this
      have hargs : VRs x (cas.toList.map e ++ caps) (cas.toList.map ρ ++ l0) := (VRs.map he _).append hl0
      have hoks : oks (cas.toList.map e ++ caps) := oks.app (oks_iff.2 fun c hc => by obtain ⟨o, _, rfl⟩ := List.mem_map.1 hc; exact heo o) hcaps
      have hR := sub_rl (F := F) hh
      obtain ⟨q1, q2⟩ := fzA_ok hx hxo hR _ _ _ _ _ hfz (fun a ha => ha) hoks _ hargs
      have hcl := hcall (x.sub F ids hc) _ rfl rfl (sub_hr hx hnd hdj hh) q1 q2 (ok_hand hxo hh)
      have hrun : (do let d ← resolve ρ { callee := .value fo, args := cas, argTypes := cts } ty; invoke d.target d.args : Sem Next).run x.P x.w = .ok (.enter f ((cas.toList.map ρ ++ l0).toArray)) x.w := by
        simp only [resolve, hfo, Deferred.ofValue, Sem.run_bind, Sem.run_pure, Result.andThen_ok, invoke]
        rw [run_callFunc hent]
        congr 2
        apply Array.ext'
        simp
      refine ⟨f, _, hrun, hcl.mono ?_⟩
      rintro _ w' ⟨r', h'', u, y, ⟨rfl, rfl⟩, hro, hho, rfl, rfl, hto, hyP, hyh, hr⟩
      unfold wb at hwb
      split at hwb
      case h_2 => cases hwb
      rename_i hck
      simp only [Bool.and_eq_true] at hck
      obtain ⟨c1, c2, c3, c4⟩ := hck
      have c1 := Nat.le_of_ble_eq_true c1
      subst hyh
      split at hwb
      · rename_i hnz
        simp only [Bool.and_eq_true] at hnz
        simp only [Option.some.injEq, Prod.mk.injEq] at hwb
        obtain ⟨rfl, rfl⟩ := hwb
        obtain ⟨t1, t2, t3⟩ := behind_ok (fl := true) hx hnd hdj hh hto hyP (id0 := id) c1 c3 c4 (fun _ => hnz.2) (H0 := x.h) (by simp)
        exact ⟨_, _, u, x.behind y true F ids id _, h, ok_rn _ _ hro, ok_wbH hxo hho, rfl, rfl, t1, rfl, rfl, rn_ok t2 _ _ (.inl hnz.1) hr⟩
      · simp only [Option.some.injEq, Prod.mk.injEq] at hwb
        obtain ⟨rfl, rfl⟩ := hwb
        obtain ⟨t1, t2, t3⟩ := behind_ok (fl := false) hx hnd hdj hh hto hyP (id0 := id) c1 c3 c4 (fun h => by cases h) (H0 := latch x.h F) (by simp)
        exact ⟨_, _, u, x.behind y false F ids id _, h, ok_rn _ _ hro, ok_wbH (ok_latch hxo F) hho, rfl, rfl, t1, rfl, rfl, rn_ok t2 _ _ (.inr (t3 rfl)) hr⟩
  | _ => simp at h
end Go.Proofs.YtkmkhcmfpbffjaaGreat.VI
