import Derived.Test.YtikiohlamlipnaaGreatPzA
import Derived.Shelf.Slices.CompactI
namespace Go.Am
structure CompH (P : Program) (g : FuncId) : Prop where
 c : zae P g
 one : ∀ (blk off cap : Nat) (zs : List Int) (w : World), Go.Sort.Holds (Value.int .i64) w blk off zs.toArray → zs.length ≤ 9223372036854775807 → zs.length ≤ cap →
  Calls P g #[.slice (some ⟨blk, off, none⟩) zs.length cap] w fun e w' => e = .returned (.slice (some ⟨blk, off, none⟩) (Lib.compact zs).length cap) ∧ ∃ q, w' = Go.Sort.putRow (Value.int .i64) (Go.Sort.ahead w q) blk off (Lib.compact zs ++ List.replicate (zs.length - (Lib.compact zs).length) 0).toArray
 none : ∀ (a : Option Addr) (cap : Nat) (w : World), Calls P g #[.slice a 0 cap] w fun e w' => e = .returned (.slice a 0 cap) ∧ w' = w
theorem zpZ (l : List Int) : Lib.compact l = zd4 l := by
 have e : ∀ j, l.toArray[j]! = l.getD j 0 := fun j => by
  rw [List.getD_eq_getElem?_getD]
  by_cases h : j < l.length
  ·rw [getElem!_pos _ j (by simpa using h), List.getElem?_eq_getElem h]; rfl
  ·rw [getElem!_neg _ j (by simpa using h), List.getElem?_eq_none (by omega)]; rfl
 unfold Lib.compact Lib.compactUpTo zd4
 rw [show (l.toArray[·]!) = fun j => l.getD j 0 from funext e]
 congr 1
 refine List.filter_congr fun j _ => ?_
 unfold Lib.keeps
 rw [e, e, Bool.eq_iff_iff]
 simp
theorem zj8 {P : Program} {g : FuncId} (h : CompH P g) {H : AH} {a : Option Addr} {c : Nat} : ACalls P g [.slice a 0 c] H fun v H' => v = .slice a 0 c ∧ H' = H := by
 refine ⟨h.c, fun m w cargs hr hv => ?_⟩
 obtain ⟨y, ys, e1, hv1, hv2⟩ := hv.cons_inv
 have e2 := hv2.nil_inv
 subst e2
 have hc : cargs = #[y] := by
  cases cargs; simpa using e1
 subst hc
 have hy : ∃ p cap, y = .slice p 0 cap := by
  cases hv1 with
  | nils p => exact ⟨_, _, rfl⟩
  | slice => exact ⟨_, _, rfl⟩
 obtain ⟨p, cap, rfl⟩ := hy
 refine (h.none p cap w).mono ?_
 rintro e w' ⟨rfl, rfl⟩
 exact ⟨_, _, H, m, rfl, ⟨rfl, rfl⟩, hv1, hr, Mu.le_refl m, ⟨Nat.le_refl _, fun b _ _ => rfl, ⟨⟨rfl, rfl⟩, fun b cs e fz h => ⟨cs, h⟩⟩⟩, fun id k' hk => .inr ⟨id, k', hk, rfl, fun h => h⟩⟩
theorem zqe {P : Program} {g : FuncId} (h : CompH P g) {id n c : Nat} {cells : List Value} {H : AH} {zs : List Int} (hb : H.b id = some ⟨true, cells⟩) (hz : zs.length = n) (hn : 0 < n) (hnc : n ≤ c) (hcl : c ≤ cells.length) (hl : n < 4611686018427387904)
 (hq : ∀ q (hq : q < zs.length), cells[q]? = some (.int .i64 zs[q])) :
 ACalls P g [.slice (some ⟨id, 0, some 1⟩) n c] H fun v H' => v = .slice (some ⟨id, 0, some 1⟩) (zd4 zs).length c ∧ ∃ cs, H' = H.set id (some ⟨true, cs⟩) ∧ cs.length = cells.length ∧ ∀ q (hq : q < (zd4 zs ++ List.replicate (zs.length - (zd4 zs).length) 0).length), cs[q]? = some (.int .i64 (zd4 zs ++ List.replicate (zs.length - (zd4 zs).length) 0)[q]) := by
 have hle := zqR zs
 refine zmk h.c (rc := fun blk off cap => .slice (some ⟨blk, off, none⟩) (zd4 zs).length cap) (fun blk off cap w h1 h2 h3 => ?_) (fun m cap h1 h2 h3 => ?_) (by simp; omega) hb hz hn hnc hcl hq
 ·have := h.one blk off cap zs w h1 (by omega) (by omega)
  rw [zpZ] at this
  rw [← hz]
  refine this.mono ?_
  rintro e w' ⟨rfl, q, rfl⟩
  exact ⟨rfl, q, #[], by simp⟩
 ·have := V.slice (m := m) (id := id) (off := 0) (es := 1) (n := (zd4 zs).length) (c := c) (o := (m.f id).base) (cap := cap) h1 (by omega) h2 (fun _ => rfl) h3
  exact this
end Go.Am
namespace Go.Pm
open Go.Am
theorem comp_calls {P : Program} {g : FuncId} (h : CompH P g) (row : Int → List PV) (hrow : ∀ x, row x = [.int .i64 x]) {l : List Int} (hb8 : l.length * 8 ≤ 140737488355328) :
 PCalls P g [(.mv, .sl true 1 (l.map row))] (Eo (.sl true 1 ((zd4 l).map row)) [.junk]) := by
 have hsl := zqR l
 have outj : ∀ {E' : Env} {v0 : Value} (q : Nat) (y : PV) (v : Value), [PV.junk][q]? = some y → [v0][q]? = some v → PR E' (some (q, [])) y v := fun {E' v0} q y v hy hv => by
  have hq : q = 0 := by
   have := (List.getElem?_eq_some_iff.1 hv).1
   simp at this; exact this
  subst hq
  simp only [List.getElem?_cons_zero, Option.some.injEq] at hy
  subst hy
  exact .junk _
 refine ⟨h.c, fun E vs ok hlen hargs => ?_⟩
 match vs, hlen with
 | [v0], _ =>
  have h0 : PR E (some (0, [])) (.sl true 1 (l.map row)) v0 := hargs 0 _ v0 rfl rfl
  generalize hx : PV.sl true 1 (l.map row) = x at h0
  cases h0 with
  | sl0 o es =>
   injection hx with e1 e2 e3
   have : l = [] := by simpa using e3
   subst this
   refine (zj8 h).mono fun v H' hv => ?_
   obtain ⟨rfl, rfl⟩ := hv
   exact ⟨_, _, E, ⟨rfl, rfl⟩, rfl, ⟨ok, ⟨Nat.le_refl _, fun b hg => ⟨hg, fun k' hk => ⟨k', hk, rfl⟩⟩, fun b _ hb2 => ⟨hb2, rfl, fun h => h⟩⟩, .sl0 _ _, rfl, outj⟩⟩
  | @slO l' id off es n c k rows how hG hb hrw hn hcc hm hr hl hh =>
   injection hx with e1 e2 e3
   subst e3
   subst e2
   obtain ⟨⟨_, rfl⟩, hl⟩ := hl
   simp only [List.length_map] at hn
   subst hn
   obtain ⟨rw, cells⟩ := k
   dsimp only at hrw hl
   subst hrw
   simp only [Nat.zero_add, Nat.mul_one] at hl
   have hid : id < E.H.n := ok.wf id _ hb
   by_cases hz : l.length = 0
   ·have hl0 := List.eq_nil_of_length_eq_zero hz
    subst hl0
    refine (zj8 h).mono fun v H' hv => ?_
    obtain ⟨rfl, rfl⟩ := hv
    refine ⟨_, _, ⟨E.H, E.G, fun b => if b = id then some (1, []) else E.ow b⟩, ⟨rfl, rfl⟩, rfl, ⟨⟨ok.wf, fun b hb' => ?_⟩, ⟨Nat.le_refl _, fun b hg => ⟨hg, fun k' hk => ⟨k', hk, rfl⟩⟩, fun b hb1 hb2 => ?_⟩, ?_, rfl, outj⟩⟩
    ·have hne : b ≠ id := by
      have : E.H.n ≤ b := hb'
      omega
     obtain ⟨f1, f2⟩ := ok.fresh b hb'
     exact ⟨by simp [hne, f1], f2⟩
    ·have hne : b ≠ id := fun e => by rw [e, how] at hb2; cases hb2
     exact ⟨by simp [hne, hb2], rfl, fun hg => hg⟩
    ·exact .slO (k := ⟨true, cells⟩) (by simp) hG hb rfl (by simp [zd4]) (by omega) (by simp) (fun r hr => by simp [zd4] at hr) ⟨⟨by omega, rfl⟩, by simpa using hl⟩ fun q r t x y a1 => by simp [zd4] at a1
   have hq : ∀ q, (hq : q < l.length) → cells[q]? = some (.int .i64 l[q]) := fun q hq => by
    have hy : ∃ y, cells[q]? = some y := ⟨cells[q]'(by omega), List.getElem?_eq_getElem (by omega)⟩
    obtain ⟨y, hy⟩ := hy
    have := hh q (row l[q]) 0 (.int .i64 l[q]) y (by simp [hq]) (by simp [hrow]) (by simpa using hy)
    cases this
    exact hy
   refine (zqe h (zs := l) hb rfl (by omega) hcc hl (by omega) hq).mono fun v H' hv => ?_
   obtain ⟨rfl, cs, rfl, k1, k2⟩ := hv
   refine ⟨_, _, ⟨E.H.set id (some ⟨true, cs⟩), E.G, fun b => if b = id then some (1, []) else E.ow b⟩, ⟨rfl, rfl⟩, rfl, ⟨⟨fun b k' hk => ?_, fun b hb' => ?_⟩, ⟨Nat.le_refl _, fun b hg => ⟨hg, fun k' hk => ?_⟩, fun b hb1 hb2 => ?_⟩, ?_, rfl, outj⟩⟩
   ·simp only [AH.set] at hk ⊢
    split at hk
    ·rename_i e; rw [e]; exact hid
    ·exact ok.wf b k' hk
   ·have hne : b ≠ id := by
     have : E.H.n ≤ b := hb'
     omega
    obtain ⟨f1, f2⟩ := ok.fresh b hb'
    exact ⟨by simp [hne, f1], f2⟩
   ·have hne : b ≠ id := fun e => hG (e ▸ hg)
    exact ⟨k', by simp [AH.set, hne, hk], rfl⟩
   ·have hne : b ≠ id := fun e => by rw [e, how] at hb2; cases hb2
    exact ⟨by simp [hne, hb2], by simp [AH.set, hne], fun hg => hg⟩
   ·refine .slO (k := ⟨true, cs⟩) (by simp) hG (by simp [AH.set]) rfl (by simp) (by omega) (by unfold zb1; omega) (fun r hr => ?_) ⟨⟨by omega, rfl⟩, by simp [k1]; omega⟩ fun q r t x y a1 a2 a3 => ?_
    ·obtain ⟨z, _, rfl⟩ := List.mem_map.1 hr
     simp [hrow]
    ·simp only [List.getElem?_map] at a1
     obtain ⟨z, hz, rfl⟩ := Option.map_eq_some_iff.1 a1
     rw [hrow] at a2
     have ht : t = 0 := by
      have := (List.getElem?_eq_some_iff.1 a2).1
      simp at this; omega
     subst ht
     simp only [List.getElem?_cons_zero, Option.some.injEq] at a2
     subst a2
     simp only [Nat.zero_add, Nat.mul_one, Nat.add_zero] at a3
     have hql := (List.getElem?_eq_some_iff.1 hz).1
     rw [k2 q (by simp; omega), List.getElem_append_left hql] at a3
     rw [List.getElem?_eq_getElem hql] at hz
     cases hz; cases a3
     exact .int _ _
  | _ => cases hx
end Go.Pm
