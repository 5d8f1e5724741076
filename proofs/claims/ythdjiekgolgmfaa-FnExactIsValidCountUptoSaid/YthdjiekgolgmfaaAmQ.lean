/-
  The abstract machine, part Q: how the reading of a law's arguments gives an abstract heap; what a contract says of the row's statement.
  No condition.
-/
import Derived.Test.YthdjiekgolgmfaaAmP
import Derived.ChangeSlices
import Derived.ChangeArms
import Derived.DataReads
import Derived.RowKit3
namespace Go.Am

/-- Nothing may be written. -/
def RO (H : AH) : Prop := ∀ id k, H.b id = some k → k.rw = false
theorem RO.push {H : AH} {as : List Value} (h : RO H) : RO (H.push ⟨false, as⟩) := by
  intro id k hk
  simp only [AH.push] at hk
  split at hk
  · cases hk; rfl
  · exact h id k hk

def Mu.put (m : Mu) (l : Loc) : Mu := ⟨m.n + 1, fun i => if i = m.n then l else m.f i⟩
theorem Mu.le_put (m : Mu) (l : Loc) : m.le (m.put l) := ⟨Nat.le_succ _, fun i hi => by simp only [Mu.put]; rw [if_neg (by omega)]⟩

theorem push_ro {m : Mu} {H : AH} {w : World} {blk off size : Nat} {as : List Value} {cs : Array Value} {e : TypeId} {fz : Nat × Nat} (r : RelH m H w) (hro : RO H) (hb : w.heap[blk]? = some (.cells cs e fz)) (hsz : off + size ≤ cs.size)
    (hl : as.length ≤ size) (hv : ∀ i v, as[i]? = some v → ∃ c, cs[off + i]? = some c ∧ V m v c) : RelH (m.put ⟨blk, off, size⟩) (H.push ⟨false, as⟩) w := by
  have hle := m.le_put ⟨blk, off, size⟩
  refine ⟨by simp only [Mu.put, AH.push]; rw [r.n], fun id k hk => wf_push r.lt id k hk, fun id k hk => ?_, fun i j bi bj hi hj hne hrw => ?_⟩
  · simp only [AH.push] at hk
    split at hk
    · rename_i e1
      cases hk
      have : ((m.put ⟨blk, off, size⟩).f id) = ⟨blk, off, size⟩ := by simp only [Mu.put]; rw [if_pos (by rw [r.n, e1])]
      rw [this]
      refine ⟨cs, e, fz, hb, hsz, hl, fun h => (by cases h), fun i v hi => ?_⟩
      obtain ⟨c, h1, h2⟩ := hv i v hi
      exact ⟨c, h1, h2.mono hle⟩
    · have hlt := r.lt id k hk
      have : ((m.put ⟨blk, off, size⟩).f id) = m.f id := hle.2 id (by rw [r.n]; exact hlt)
      rw [this]
      obtain ⟨cs', e', fz', h1, h2, h3, h4, h5⟩ := r.cells id k hk
      exact ⟨cs', e', fz', h1, h2, h3, h4, fun i v hi => by obtain ⟨c, a, b⟩ := h5 i v hi; exact ⟨c, a, b.mono hle⟩⟩
  · have := hro.push (as := as) i bi hi
    rw [this] at hrw; cases hrw

section
variable {P : Program} {X : Type} {enc : TypeId × Value → X} {W : World}

/-- Values of a type, read: what abstract cells stand for them, and what is known of these; 'bulk' bounds what was read. -/
def Reads (X : Type) (enc : TypeId × Value → X) (P : Program) (W : World) (t : TypeId) (α : Type) (R : AH → List Value → α → DataW X → Prop) : Prop :=
  ∀ {m : Mu} {H : AH} {fuel : Nat} {cs : List Value} {x : DataW X × List MemPlace}, RelH m H W → RO H → DataW.trod enc P W 0 (fun _ => true) true fuel t cs = some x →
    ∃ m' H' as a, RelH m' H' W ∧ RO H' ∧ m.le m' ∧ Ext H H' ∧ Vl m' as cs ∧ R H' as a x.1

theorem reads_int {t : TypeId} {k : IntKind} (ht : P.underlying t = some (.int k)) : Reads X enc P W t Int (fun _ as n _ => as = [.int k n] ∧ (Lit.int k n).wf = true) := by
  intro m H fuel cs x r hro h
  obtain ⟨n, rfl, rfl, hw⟩ := DataW.trod_int ht h
  exact ⟨m, H, _, n, r, hro, m.le_refl, .refl H, .cons (.int k n) (.nil m), rfl, hw⟩

theorem cell_block {w : World} {a : Addr} {v : Value} (h : w.cell? a = some v) : ∃ cs e fz, w.heap[a.block]? = some (.cells cs e fz) ∧ a.spot = none ∧ cs[a.off]? = some v := by
  unfold World.cell? at h
  split at h
  · rename_i cs e fz hb
    split at h
    · cases h
    · rename_i hs
      exact ⟨cs, e, fz, hb, by simpa using hs, h⟩
  · cases h
theorem add_off (a : Addr) (n : Nat) : (a.add n).off = a.off + n ∧ (a.add n).block = a.block := by
  unfold Addr.add
  split
  · rename_i h; subst h; exact ⟨rfl, rfl⟩
  · exact ⟨rfl, rfl⟩

/-- A slice, of what its elements are. -/
structure SlR {α : Type} (R : AH → List Value → α → DataW X → Prop) (H : AH) (es : Nat) (p : Option Addr) (c : Nat) (ess : List (List Value)) (L : List α) (D : List (DataW X)) : Prop where
  s : Sl H (.slice p L.length c) es ess
  l : ess.length = L.length
  d : D.length = L.length
  e : ∀ (i : Nat) (y : List Value) (a : α), ess[i]? = some y → L[i]? = some a → ∃ d, D[i]? = some d ∧ R H y a d

theorem reads_slice {t e : TypeId} {es : Nat} {α : Type} {R : AH → List Value → α → DataW X → Prop} (ht : P.underlying t = some (.slice e)) (hc : P.cellsOf e = es) (h0 : 0 < es)
    (hmono : ∀ H H' y a d, R H y a d → Ext H H' → R H' y a d) (hr : Reads X enc P W e α R) :
    ∀ {m : Mu} {H : AH} {fuel : Nat} {cs : List Value} {x : DataW X × List MemPlace}, RelH m H W → RO H → DataW.trod enc P W 0 (fun _ => true) true fuel t cs = some x →
    ∃ m' H' p c ess L D, RelH m' H' W ∧ RO H' ∧ m.le m' ∧ Ext H H' ∧ Vl m' [.slice p L.length c] cs ∧ SlR R H' es p c ess L D ∧ (x.1 = .nil ∧ D = [] ∨ ∃ sp, x.1 = .slice D sp) := by
  intro m H fuel cs x r hro h
  rcases DataW.trod_slice ht h with ⟨rfl, rfl⟩ | ⟨a, len, cap, elems, rest, n, rfl, rfl, rfl, hb, hlc, hmx, hlen, hel, hsp, _⟩
  · refine ⟨m, H, none, 0, [], [], [], r, hro, m.le_refl, .refl H, .cons (.nils none) (.nil m), ⟨⟨none, 0, rfl, fun _ h => (by cases h), .inl ⟨rfl, rfl, rfl⟩⟩, rfl, rfl, fun i y a h => (by simp at h)⟩, .inl ⟨rfl, rfl⟩⟩
  · obtain ⟨hrl, hrest⟩ := hsp rfl
    rw [hc] at hel hrest
    by_cases hcap : cap = 0
    · subst hcap
      have : len = 0 := by omega
      subst this
      have : elems = [] := List.eq_nil_of_length_eq_zero hlen
      subst this
      refine ⟨m, H, none, 0, [], [], [], r, hro, m.le_refl, .refl H, .cons (.nils _) (.nil m), ⟨⟨none, 0, rfl, fun _ h => (by cases h), .inl ⟨rfl, rfl, rfl⟩⟩, rfl, rfl, fun i y a h => (by simp at h)⟩, .inr ⟨_, rfl⟩⟩
    · -- the block
      have hlast : ∃ cs', W.cells? 0 (a.add ((cap - 1) * es)) es = some cs' := by
        by_cases hll : len = cap
        · have := hel (cap - 1) (by omega)
          have hlt : cap - 1 < elems.length := by omega
          rw [List.getElem?_eq_getElem hlt] at this
          obtain ⟨cs', h1, _⟩ := Option.bind_eq_some_iff.1 this
          exact ⟨cs', h1⟩
        · have := hrest (cap - 1 - len) (by omega)
          have hlt : cap - 1 - len < rest.length := by omega
          rw [List.getElem?_eq_getElem hlt] at this
          obtain ⟨cs', h1, _⟩ := Option.bind_eq_some_iff.1 this
          rw [show len + (cap - 1 - len) = cap - 1 by omega] at h1
          exact ⟨cs', h1⟩
      obtain ⟨cl, hcl⟩ := hlast
      have hcl' := (World.cells?_some hcl)
      have hlc1 : es - 1 < cl.length := by omega
      have hc1 := hcl'.2.2 (es - 1) (by omega)
      rw [List.getElem?_eq_getElem hlc1] at hc1
      obtain ⟨blkc, ety, fz, hblk, _, hlastc⟩ := cell_block hc1
      rw [(add_off _ _).2, (add_off _ _).2] at hblk
      rw [(add_off _ _).1, (add_off _ _).1] at hlastc
      have hmul : (cap - 1) * es + es = cap * es := by
        rw [← Nat.succ_mul]; congr 1; omega
      have hsz : a.off + cap * es ≤ blkc.size := by
        have := (Array.getElem?_eq_some_iff.1 hlastc).1
        omega
      -- the elements, one by one
      have build : ∀ i, i ≤ len → ∃ (m' : Mu) (H' : AH) (ess : List (List Value)) (L : List α), RelH m' H' W ∧ RO H' ∧ m.le m' ∧ Ext H H' ∧ ess.length = i ∧ L.length = i ∧
          (∀ (j : Nat) (y : List Value) (b : α), ess[j]? = some y → L[j]? = some b → ∃ d, (elems.map (·.1))[j]? = some d ∧ R H' y b d) ∧
          (∀ (j : Nat) (y : List Value), ess[j]? = some y → y.length = es ∧ ∀ (q : Nat) (v : Value), y[q]? = some v → ∃ c, blkc[a.off + (j * es + q)]? = some c ∧ V m' v c) := by
        intro i
        induction i with
        | zero => intro _; exact ⟨m, H, [], [], r, hro, m.le_refl, .refl H, rfl, rfl, fun j y b h => (by simp at h), fun j y h => (by simp at h)⟩
        | succ i ih =>
          intro hi
          obtain ⟨m1, H1, ess, L, r1, ro1, le1, ext1, l1, l2, hR, hV⟩ := ih (by omega)
          have he := hel i (by omega)
          have hlt : i < elems.length := by omega
          rw [List.getElem?_eq_getElem hlt] at he
          obtain ⟨ci, hci, htr⟩ := Option.bind_eq_some_iff.1 he
          obtain ⟨m2, H2, as, b, r2, ro2, le2, ext2, hVl, hRb⟩ := hr r1 ro1 htr
          have hci' := World.cells?_some hci
          have hasl : as.length = es := by rw [hVl.1]; exact hci'.2.1
          refine ⟨m2, H2, ess ++ [as], L ++ [b], r2, ro2, Mu.le_trans le1 le2, ext1.trans ext2, by simp [l1], by simp [l2], fun j y c hy hb => ?_, fun j y hy => ?_⟩
          · by_cases hj : j < i
            · rw [List.getElem?_append_left (by omega)] at hy hb
              obtain ⟨d, hd1, hd2⟩ := hR j y c hy hb
              exact ⟨d, hd1, hmono _ _ _ _ _ hd2 ext2⟩
            · rw [List.getElem?_append_right (by omega)] at hy hb
              have hj0 : j - ess.length = 0 := by
                have := (List.getElem?_eq_some_iff.1 hy).1; simp at this; omega
              have hj1 : j - L.length = 0 := by omega
              rw [hj0] at hy; rw [hj1] at hb
              simp at hy hb
              subst hy; subst hb
              have hji : j = i := by omega
              refine ⟨_, ?_, hRb⟩
              rw [hji, List.getElem?_map, List.getElem?_eq_getElem hlt]; rfl
          · by_cases hj : j < i
            · rw [List.getElem?_append_left (by omega)] at hy
              obtain ⟨h1, h2⟩ := hV j y hy
              exact ⟨h1, fun q v hq => by obtain ⟨c, h3, h4⟩ := h2 q v hq; exact ⟨c, h3, h4.mono le2⟩⟩
            · rw [List.getElem?_append_right (by omega)] at hy
              have hj0 : j - ess.length = 0 := by
                have := (List.getElem?_eq_some_iff.1 hy).1; simp at this; omega
              rw [hj0] at hy
              simp at hy
              subst hy
              have hji : j = i := by omega
              subst hji
              refine ⟨hasl, fun q v hq => ?_⟩
              obtain ⟨c, hc1, hc2⟩ := hVl.get hq
              have hql : q < es := by have := (List.getElem?_eq_some_iff.1 hq).1; omega
              have := hci'.2.2 q hql
              rw [hc1] at this
              obtain ⟨b1, b2, b3, hb1, _, hb3⟩ := cell_block this
              rw [(add_off _ _).2, (add_off _ _).2, hblk] at hb1
              cases hb1
              rw [(add_off _ _).1, (add_off _ _).1] at hb3
              exact ⟨c, by rw [← hb3]; congr 1; omega, hc2⟩
      obtain ⟨m1, H1, ess, L, r1, ro1, le1, ext1, l1, l2, hR, hV⟩ := build len (Nat.le_refl _)
      have hess : ∀ y, y ∈ ess → y.length = es := by
        intro y hy
        obtain ⟨j, hj⟩ := List.getElem?_of_mem hy
        exact (hV j y hj).1
      have hfl : ess.flatten.length ≤ cap * es := by
        rw [len_flatten hess, l1]; exact Nat.mul_le_mul_right _ hlc
      have r2 := push_ro (as := ess.flatten) r1 ro1 hblk hsz hfl (by
        intro i v hi
        have hil : i < ess.flatten.length := (List.getElem?_eq_some_iff.1 hi).1
        rw [len_flatten hess] at hil
        have hje : i / es < ess.length := Nat.div_lt_of_lt_mul (by rw [Nat.mul_comm]; exact hil)
        have hdm : i = (i / es) * es + i % es := by rw [Nat.mul_comm]; exact (Nat.div_add_mod i es).symm
        have hq : i % es < es := Nat.mod_lt _ h0
        have hd := drop_flatten hess (i / es)
        have hi2 : (ess.flatten.drop (i / es * es))[i % es]? = some v := by rw [List.getElem?_drop, ← hdm]; exact hi
        rw [hd, List.drop_eq_getElem_cons hje, List.flatten_cons] at hi2
        have hyl := hess _ (List.getElem_mem hje)
        rw [List.getElem?_append_left (by omega)] at hi2
        obtain ⟨c, h1, h2⟩ := (hV (i / es) _ (List.getElem?_eq_getElem hje)).2 (i % es) v hi2
        exact ⟨c, by rw [hdm]; exact h1, h2⟩)
      have hput : (m1.put ⟨a.block, a.off, cap * es⟩).f m1.n = ⟨a.block, a.off, cap * es⟩ := by simp [Mu.put]
      have haspot : a = ⟨a.block, a.off, none⟩ := by
        have hfirst : ∃ cs', W.cells? 0 (a.add (0 * es)) es = some cs' := by
          by_cases hll : len = 0
          · have := hrest 0 (by omega)
            have hlt : 0 < rest.length := by omega
            rw [List.getElem?_eq_getElem hlt] at this
            obtain ⟨cs', h1, _⟩ := Option.bind_eq_some_iff.1 this
            rw [show len + 0 = 0 by omega] at h1
            exact ⟨cs', h1⟩
          · have := hel 0 (by omega)
            have hlt : 0 < elems.length := by omega
            rw [List.getElem?_eq_getElem hlt] at this
            obtain ⟨cs', h1, _⟩ := Option.bind_eq_some_iff.1 this
            exact ⟨cs', h1⟩
        obtain ⟨cf, hcf⟩ := hfirst
        have hcf' := World.cells?_some hcf
        have h3 := hcf'.2.2 0 h0
        have h4 : 0 < cf.length := by omega
        rw [List.getElem?_eq_getElem h4] at h3
        have e0 : (a.add (0 * es)).add 0 = a := by simp [Addr.add]
        rw [e0] at h3
        obtain ⟨_, _, _, _, hs, _⟩ := cell_block h3
        obtain ⟨b1, b2, b3⟩ := a
        simp at hs
        subst hs; rfl
      refine ⟨_, _, some ⟨H1.n, 0, some es⟩, len, ess, L, elems.map (·.1), r2, ro1.push, Mu.le_trans le1 (Mu.le_put _ _), ext1.trans (ext_push r1.lt), .cons ?_ (.nil _), ⟨⟨_, _, by rw [l1, l2], hess, .inr ⟨H1.n, 0, rfl, by omega, .inr ⟨_, [], push_same, by simp⟩⟩⟩, by rw [l1, l2], by simp [l2, hlen], fun j y b hy hb => ?_⟩, .inr ⟨_, rfl⟩⟩
      · have := V.slice (m := m1.put ⟨a.block, a.off, cap * es⟩) (id := m1.n) (off := 0) (es := es) (n := L.length) (c := len) (o := a.off) (cap := cap) (by simp [Mu.put]) (by omega) hlc (fun _ => by rw [hput]; rfl) (by rw [hput]; simp)
        rw [hput] at this
        rw [← r1.n, haspot]
        rw [l2] at this ⊢
        exact this
      · obtain ⟨d, h1, h2⟩ := hR j y b hy hb
        exact ⟨d, h1, hmono _ _ _ _ _ h2 (ext_push r1.lt)⟩

-- behind the call
theorem same_of_keeps {m : Mu} {H : AH} {w' : World} (hro : RO H) (hk : Keeps m H W w') : ∀ b, b < W.heap.size → w'.heap[b]? = W.heap[b]? :=
  fun b hb => hk.2.1 b hb fun id k hi hrw => by rw [hro id k hi] at hrw; cases hrw
theorem grown_of_keeps {m : Mu} {H : AH} {w' : World} (hro : RO H) (hk : Keeps m H W w') : RowKit.Grown W w' := by
  have hs := same_of_keeps hro hk
  refine ⟨⟨hk.2.2.os.1, hk.2.2.os.2, fun i hi => ?_⟩, fun a => ?_, hk.1⟩
  · rw [hs i hi]
    split
    · exact ⟨by simp_all, by simp_all, by simp_all, fun j _ => by simp_all⟩
    · rename_i h1 h2
      rw [h1] at h2; cases h2
      exact .inr ⟨rfl, rfl⟩
    · rfl
  · unfold World.frozen?
    rcases Nat.lt_or_ge a.block W.heap.size with h | h
    · rw [hs _ h]
    · rw [Array.getElem?_eq_none h]
      cases hw : w'.heap[a.block]? with
      | none => rfl
      | some o =>
        obtain ⟨cs, e, rfl⟩ := hk.2.2.new _ o h hw
        simp
/-- The empty heap stands for every world. -/
theorem rel_none : RelH ⟨0, fun _ => ⟨0, 0, 0⟩⟩ ⟨0, fun _ => none⟩ W :=
  ⟨rfl, fun _ _ h => (by cases h), fun _ _ h => (by cases h), fun _ _ _ _ h => (by cases h)⟩
theorem ro_none : RO ⟨0, fun _ => none⟩ := fun _ _ h => (by cases h)
end
end Go.Am
