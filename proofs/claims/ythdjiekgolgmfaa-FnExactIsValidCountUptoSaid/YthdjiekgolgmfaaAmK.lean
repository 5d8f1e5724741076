/-
  The abstract machine, part K: the abstract run of an operation, and of a list of operations in the order of the text, is sound.
  No condition.
-/
import Derived.Test.YthdjiekgolgmfaaAmJ
import Derived.Tactics
namespace Go.Am

section
variable {c : Ctx} {m : Mu} {fr : FR} {H : AH} {a : Act} {w : World} {P : Program} {K : FR → AH → Prop} {next : Act → World → Prop}

theorem move_sound {o : Oper} {x : Operand} {Q : Exit → Act → World → Prop} (ho : o.op = .move x)
    (h : match rda fr x with
    | some (.lp s off) => putO c.nt K o.dst (.lp s off) fr H
    | _ => aplain P c.nt o K fr H) (r : RelS c m fr H a w)
    (hn : ∀ m' fr' H' a' w', K fr' H' → RelS c m' fr' H' a' w' → next a' w') : o.wp P a w next Q := by
  split at h
  · rename_i s off hx
    have hv := rda_sound r hx
    have hrun : (execOp a.eval o).run P w = .ok (.value (a.eval x)) w := by simp [execOp, ho]
    unfold Oper.wp
    rw [hrun]
    exact putO_fv h r hv hn
  · exact plainop_sound h r hn

theorem aop_sound {o : Oper} {Q : Exit → Act → World → Prop} (h : aop P c.nt o K fr H) (r : RelS c m fr H a w)
    (hn : ∀ m' fr' H' a' w', K fr' H' → RelS c m' fr' H' a' w' → next a' w') : o.wp P a w next Q := by
  unfold aop at h
  split at h
  · exact load_sound ‹_› h r hn
  · exact addrop_sound h r hn
  · exact addrop_sound h r hn
  · exact addrop_sound h r hn
  · exact alloc_sound ‹_› h r hn
  · exact box_sound ‹_› h r hn
  · exact buildSlice_sound ‹_› h r hn
  · exact store_sound ‹_› h r hn
  · exact pick_sound ‹_› h r hn
  · exact makeSlice_sound ‹_› h r hn
  · exact append_sound ‹_› h r hn
  · exact call_sound ‹_› h r hn
  · exact move_sound ‹_› h r hn
  · exact plainop_sound h r hn

/-- One operation with its guard. -/
def gop (P : Program) (nt : Nat) (pre : List (Option Tmp)) (o : Oper) (K : FR → AH → Prop) (fr : FR) (H : AH) : Prop :=
  match o.guard with
  | none => aop P nt o K fr H
  | some (j, b) => match yieldA fr pre j with
    | some y => if y = some b then aop P nt o K fr H else putO nt K o.dst .skip fr H
    | none => False

theorem aops_cons (pre : List (Option Tmp)) (o : Oper) (l : List Oper) (nt : Nat) : aops P nt pre (o :: l) K fr H = gop P nt pre o (aops P nt pre l K) fr H := rfl

theorem yield_sound (r : RelS c m fr H a w) {ops : Array Oper} {j : Nat} {y : Option Bool} (h : yieldA fr (ops.toList.map (·.dst)) j = some y) : yielded ops a.tmps j = y := by
  unfold yieldA at h
  split at h
  · rename_i d hd
    have hd' : (ops[j]?).bind (·.dst) = some d := by
      rw [List.getElem?_map] at hd
      cases hj : ops[j]? with
      | none => have : ops.toList[j]? = none := by simpa using hj
                rw [this] at hd; cases hd
      | some o => have : ops.toList[j]? = some o := by simpa using hj
                  rw [this] at hd; simpa using hd
    have hf := r.f d
    unfold RF at hf
    unfold yielded
    rw [hd']
    split at h
    · rename_i b hb
      cases h
      rw [hb] at hf
      have := bool_inv hf
      simp only [Array.getD_eq_getD_getElem?] at this
      cases hq : a.tmps[d]? with
      | none => rw [hq] at this; cases this
      | some v => rw [hq] at this; simp at this; subst this; simp [hq]
    · rename_i hb
      cases h
      rw [hb] at hf
      simp only [Array.getD_eq_getD_getElem?] at hf
      cases hq : a.tmps[d]? with
      | none => simp [hq]
      | some v => rw [hq] at hf; simp at hf; subst hf; simp [hq, undef]
    · cases h
  · cases h

theorem gop_sound {ops : Array Oper} {o : Oper} {Q : Exit → Act → World → Prop} (h : gop P c.nt (ops.toList.map (·.dst)) o K fr H) (r : RelS c m fr H a w)
    (hn : ∀ m' fr' H' a' w', K fr' H' → RelS c m' fr' H' a' w' → next a' w') :
    if Region.wanted o (yielded ops a.tmps) = true then o.wp P a w next Q else next (a.put o.dst undef) w := by
  unfold gop at h
  split at h
  · rename_i hg
    rw [if_pos (by simp [Region.wanted, hg])]
    exact aop_sound h r hn
  · rename_i j b hg
    split at h
    · rename_i y hy
      have hy' := yield_sound r hy
      split at h
      · rename_i e
        rw [if_pos (by simp [Region.wanted, hg, hy', e])]
        exact aop_sound h r hn
      · rename_i e
        rw [if_neg (by simp [Region.wanted, hg, hy', e])]
        exact putO_skip h r hn
    · cases h

theorem aops_sound {ops : Array Oper} {Q : Exit → Act → World → Prop} : ∀ (l : List Oper) {m : Mu} {fr : FR} {H : AH} {a : Act} {w : World}, aops P c.nt (ops.toList.map (·.dst)) l K fr H → RelS c m fr H a w →
    (∀ m' fr' H' a' w', K fr' H' → RelS c m' fr' H' a' w' → Q .normal a' w') → wpList P ops Q l a w := by
  intro l
  induction l with
  | nil => intro m fr H a w h r hn; exact hn m fr H a w h r
  | cons o l ih =>
    intro m fr H a w h r hn
    rw [aops_cons] at h
    refine wpList_step fun KK hKK => ?_
    exact gop_sound h r fun m' fr' H' a' w' h' r' => hKK _ _ (ih h' r' hn)

end
end Go.Am
