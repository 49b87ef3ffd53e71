import Derived.Test.YtcpicekmnkjceaaTFm5
namespace Go.Proofs.Ytcpicekmnkjceaa.VI
set_option linter.unusedVariables false
set_option linter.unusedSimpArgs false
set_option maxRecDepth 100000
set_option linter.unusedSimpArgs false
set_option linter.unusedVariables false
def sWid1 (l : List V) (h : Heap) : Tr := match l, h with
  | [.i .i64 f], [] => .ret (.tup [.i .i64 (EE f), .i .i64 (MM f)]) []
  | _, _ => .no
theorem wid1 (f : Int) : (sWid [.i .i64 f] []).val = (sWid1 [.i .i64 f] []).val := by
  refine f3 f (fun h => ?_) (fun h => ?_) (fun a b h0 h1 => ?_)
  · subst h; rfl
  · subst h; rfl
  · obtain ⟨_, _, _, e4, e5, _⟩ := oth h0 h1
    simp only [sWid1, e4, e5]
    show (match (f == 0) with | true => _ | false => match (f == 1) with | true => _ | false => _) = _
    rw [a, b]; rfl
theorem okWid1 : OrcOk PR (ent i_format_Widths [] 0 sWid1) := fn0 (orn_ok _) mixed p_format_Widths (by kernel_rfl) (by kernel_rfl) (by kernel_rfl) fun l hc r h' hv ho hh => by
  have hv2 := hv
  unfold sWid1 at hv
  split at hv
  · rename_i f
    have : run0 PR orn f_format_Widths [.i .i64 f] [] = (sWid [.i .i64 f] []).val := by kernel_rfl
    exact this.trans ((wid1 f).trans hv2)
  · cases hv
theorem okWid1R : OrcOk PR (ent i_annealref1_Widths [] 0 sWid1) := fn0 (orn_ok _) mixed p_annealref1_Widths (by kernel_rfl) (by kernel_rfl) (by kernel_rfl) fun l hc r h' hv ho hh => by
  have hv2 := hv
  unfold sWid1 at hv
  split at hv
  · rename_i f
    have : run0 PR orn f_annealref1_Widths [.i .i64 f] [] = (sWid [.i .i64 f] []).val := by kernel_rfl
    exact this.trans ((wid1 f).trans hv2)
  · cases hv
def O13 : Orc := ors (ent i_anneallaw2_known [] 0 sTrue) (ors (ent i_annealseat_Num [] 0 sNum) (ors (ent i_format_Widths [] 0 sWid1) (ors O2 (ors (ent i_annealref1_Unpack [] 0 sUnpack) (ors (ent i_annealref1_Class [] 0 sClass) (ors (ent i_annealref1_Finite [] 0 sFin) (ors (ent i_annealref1_Widths [] 0 sWid1) (ors (ent i_annealref1_Mask [] 0 sMask) (ors (ent i_annealref1_Zero [] 0 sZero) (ors (ent i_annealref1_Inf [] 0 sInf) (ors (ent i_annealref1_Greatest [] 0 sGreat) (ent i_annealref1_Nan [] 0 sNan))))))))))))
theorem okO13 : OrcOk PR O13 := ors_ok okKnown2 (ors_ok okNum (ors_ok okWid1 (ors_ok okO2 (ors_ok okUnpackR (ors_ok okClassR (ors_ok okFinR (ors_ok okWid1R (ors_ok okMaskR (ors_ok okZeroR (ors_ok okInfR (ors_ok okGreatR okNanR)))))))))))
def rF : Option (V × Heap) := some (.b false, [])
def neI (a : Int) (K : Option (V × Heap)) : Option (V × Heap) := bif a != a then rF else K
def neB (a : Bool) (K : Option (V × Heap)) : Option (V × Heap) := bif !(a == a) then rF else K
theorem neI_eq (a : Int) (K : Option (V × Heap)) : neI a K = K := by unfold neI; rw [bne_self_eq_false]; rfl
theorem neB_eq (a : Bool) (K : Option (V × Heap)) : neB a K = K := by cases a <;> rfl
def ckX (g x : Int) (K : Option (V × Heap)) : Option (V × Heap) := neI (kl g x) <| neB (decide (ex g x < RR g - 1)) <| neB (sg g x) <| neI (xp g x) <| neI (sig g x) K
def ckG (g : Int) (b : Bool) (K : Option (V × Heap)) : Option (V × Heap) := neI (EE g) <| neI (MM g) <| neI (2 * TT g - 1) <| neI (if b then TT g else 0) <| neI ((RR g - 1) * BB g + if b then TT g else 0) <| neI ((RR g - 1) * BB g - 1 + if b then TT g else 0) <| neI ((RR g - 1) * BB g + BB g / 2) K
def ckA (g v k : Int) (b : Bool) (K : Option (V × Heap)) : Option (V × Heap) := ckX g v <| ckX g (numV g k) <| ckX g (numV g v) <| ckG g b K
def L13 : Lps := fun _ key => match key with
  | 5 => .un 5 [1, 2, 3, 26, 27, 28]
  | _ => .un 4 [1, 2, 3, 10, 26, 27, 28, 39, 40, 41]
theorem run13 (f v k : Int) (b : Bool) : runk PR O13 L13 false f_anneallaw2_FormatTells (f_anneallaw2_FormatTells.body.getD .skip) [.i .i64 f, .i .u32 v, .i .u32 k, .b b] [] (fun r h => some (r, h)) =
  ckA f v k b (ckA 0 v k b (ckA 1 v k b (ckA 2 v k b (some (.b true, []))))) := by kernel_rfl
end Go.Proofs.Ytcpicekmnkjceaa.VI
