import Derived.Test.YtikiohlamlipnaaGreatPmR
namespace Go.Pm
open Go.Am
inductive PIt where
 | code (c : Code)
 | wk (c : Code)
 | ops (pre : List (Option Tmp)) (l : List Oper)
 | dops (pre : List (Option Tmp)) (l : List (DE × Oper))
 | blk (id : Nat)
def zbq (P : Program) (c : Cfg) : List PIt → (Exit → PFr → Prop) → Exit → PFr → Prop
 | [], Q, e => Q e
 | it :: k, Q, e => match e with
  | .normal => match it with
   | .code x => pwp P c x (zbq P c k Q)
   | .wk x => fun pf => ∃ pf2, PWeak pf2 pf ∧ pwp P c x (zbq P c k Q) pf2
   | .ops pre l => zjy P c pre l (zbq P c k Q .normal)
   | .dops pre l => zi7 P c pre l (zbq P c k Q .normal)
   | .blk _ => zbq P c k Q .normal
  | .exit id => match it with
   | .blk i => if id = i then zbq P c k Q .normal else zbq P c k Q (.exit id)
   | _ => zbq P c k Q (.exit id)
  | e => zbq P c k Q e
def pw (P : Program) (c : Cfg) (k : List PIt) (Q : Exit → PFr → Prop) (pf : PFr) : Prop := zbq P c k Q .normal pf
section
variable {P : Program} {c : Cfg} {K K2 : PFr → Prop}
theorem zrh (hk : ∀ pf, K pf → K2 pf) {d : Nat} {x : Option (PF × PFr)} (h : pfz K d x) : pfz K2 d x := by
 cases x with
 | none => exact h
 | some x => exact hk _ h
theorem zaD (hk : ∀ pf, K pf → K2 pf) {d : Option Tmp} {y : PF} {pf : PFr} (h : zbi c K d y pf) : zbi c K2 d y pf := by
 cases d with
 | none => exact hk _ h
 | some d =>
  refine ⟨h.1, ?_⟩
  have h2 := h.2
  split at h2
  ·rename_i hh; rw [if_pos hh]; exact zrh hk h2
  ·rename_i hh; rw [if_neg hh]; exact hk _ h2
theorem zl8 (hk : ∀ pf, K pf → K2 pf) {d : Option Tmp} {pf : PFr} {x : Option AD} (h : pad c K d pf x) : pad c K2 d pf x := by
 cases x with
 | none => exact h
 | some x => exact zaD hk h
theorem zfp (hk : ∀ pf, K pf → K2 pf) {o : Oper} {pf : PFr} (h : zde P c o K pf) : zde P c o K2 pf := by
 unfold zde at h ⊢
 split at h
 ·split at h
  ·exact zaD hk h
  ·exact h
 ·exact h
theorem zpY (hk : ∀ pf, K pf → K2 pf) {d : Option Tmp} {r : PV} {x : Option PFr} (h : zoY c d K r x) : zoY c d K2 r x := by
 cases x with
 | none => exact h
 | some x => exact zaD hk h
theorem zje (hk : ∀ pf, K pf → K2 pf) {f : Operand} {args : List Operand} {ts : List TypeId} {d : Option Tmp} {pf : PFr} {ms : List Md} (h : ziM P c f args ts d K pf ms) : ziM P c f args ts d K2 pf ms := by
 refine ⟨h.1, ?_⟩
 have h2 := h.2
 unfold zmS at h2 ⊢
 split at h2
 ·unfold zix at h2 ⊢
  split at h2
  ·exact h2.mono fun r outs hh => ⟨hh.1, zpY hk hh.2⟩
  ·exact h2
 ·exact h2
theorem zog (hk : ∀ pf, K pf → K2 pf) {op : BinOp} {t : TypeId} {x : Operand} {d : Option Tmp} {pf : PFr} (h : zi0 P c op t x d K pf) : zi0 P c op t x d K2 pf := by
 unfold zi0 at h ⊢
 split at h
 ·exact ⟨h.1, fun b hb => zaD hk (h.2 b hb)⟩
 ·exact h
theorem zoH (hk : ∀ pf, K pf → K2 pf) {s t : TypeId} {x : Operand} {d : Option Tmp} {pf : PFr} (h : zhZ P c s t x d K pf) : zhZ P c s t x d K2 pf := by
 unfold zhZ at h ⊢
 split at h
 ·exact ⟨h.1, zaD hk h.2⟩
 ·exact h
theorem zh5 (hk : ∀ pf, K pf → K2 pf) {o : Oper} {pf : PFr} (h : pop P c o K pf) : pop P c o K2 pf := by
 unfold pop at h ⊢
 split at h
 ·unfold zi6 at h ⊢
  split at h
  ·exact zaD hk h
  ·split at h
   ·exact zaD hk h
   ·exact h
 ·unfold zhy at h ⊢
  split at h
  ·refine ⟨h.1, h.2.1, ?_⟩
   have h3 := h.2.2
   unfold zgk at h3 ⊢
   split at h3
   ·split at h3
    ·exact hk _ h3
    ·exact h3
   ·exact h3
  ·exact h
 ·exact zl8 hk h
 ·unfold zhw at h ⊢
  split at h
  ·exact zaD hk h
  ·split at h
   ·exact zaD hk h
   ·exact h
 ·exact zl8 hk h
 ·unfold zht at h ⊢
  split at h
  ·refine ⟨h.1, ?_⟩
   have h3 := h.2
   split at h3
   ·rename_i hh; rw [if_pos hh]; exact hk _ h3
   ·rename_i hh; rw [if_neg hh]; exact hk _ h3
  ·exact h
 ·unfold zkW at h ⊢
  split at h
  ·refine ⟨h.1, h.2.1, h.2.2.1, ?_⟩
   have h3 := h.2.2.2
   split at h3
   ·rename_i hh; rw [if_pos hh]
    split at h3
    ·rename_i hh; rw [if_pos hh]; exact hk _ h3
    ·rename_i hh; rw [if_neg hh]; exact hk _ h3
   ·rename_i hh; rw [if_neg hh]; exact hk _ h3
  ·exact h
 ·unfold zkx at h ⊢
  split at h
  ·rename_i hm
   rw [if_pos hm]
   unfold zjX at h ⊢
   split at h
   ·exact zaD hk h
   ·exact h
  rename_i hm
  rw [if_neg hm]
  split at h
  ·refine ⟨h.1, ?_⟩
   have h3 := h.2
   unfold zlR at h3 ⊢
   split at h3
   ·exact ⟨h3.1, hk _ h3.2⟩
   ·exact h3
  ·exact h
 ·unfold zhr at h ⊢
  split at h
  ·unfold zpd at h ⊢
   split at h
   ·exact zaD hk h
   ·exact h
  ·exact h
 ·unfold zi8 zpf at h ⊢
  split at h
  ·split at h
   ·exact zaD hk h
   ·exact h
  ·split at h
   ·exact zaD hk h
   ·exact h
  ·exact h
 ·unfold ziU at h ⊢
  split at h
  ·unfold zow at h ⊢
   split at h
   ·exact ⟨h.1, zaD hk h.2⟩
   ·exact h
  ·exact h
 ·unfold ziX at h ⊢
  split at h
  ·exact zaD hk h
  ·exact h
 ·unfold zgh at h ⊢
  split at h
  ·unfold zeQ at h ⊢
   split at h
   ·refine ⟨h.1, ?_⟩
    have h3 := h.2
    split at h3
    ·rename_i hh; rw [if_pos hh]; exact zaD hk h3
    ·rename_i hh; rw [if_neg hh]; exact zaD hk h3
   ·exact ⟨h.1, zaD hk h.2⟩
   ·exact zaD hk h
   ·exact h
   ·exact h
   ·exact zaD hk h
  ·split at h
   ·exact zaD hk h
   ·exact h
 ·unfold zgt at h ⊢
  split at h
  ·exact zaD hk h
  ·split at h
   ·exact zaD hk h
   ·exact h
 ·unfold zfK at h ⊢
  split at h
  ·refine ⟨h.1, ?_⟩
   have h2 := h.2
   unfold pex at h2 ⊢
   split at h2
   ·refine ⟨h2.1, ?_⟩
    have h3 := h2.2
    split at h3
    ·rename_i hh; rw [if_pos hh]; exact zaD hk h3
    ·rename_i hh; rw [if_neg hh]; exact zaD hk h3
   ·exact h2
  ·exact h
 ·split at h
  ·rename_i hh; rw [if_pos hh]; exact zfp hk h
  ·rename_i hh; rw [if_neg hh]
   unfold zhE at h ⊢
   split at h
   ·unfold zk3 at h ⊢
    split at h
    ·split at h
     ·exact zaD hk h
     ·exact h
    ·split at h
     ·exact ⟨h.1, h.2.1, zaD hk h.2.2⟩
     ·exact h
    ·exact h
   ·exact h
 ·unfold zpa at h ⊢
  split at h
  ·split at h
   ·rename_i hh; rw [if_pos hh]; exact zfp hk h
   ·rename_i hh; rw [if_neg hh]
    unfold zjR at h ⊢
    split at h
    ·split at h
     ·exact fun hl => zaD hk (h hl)
     ·exact h
    ·exact h
  ·exact h
 ·unfold zof at h ⊢
  split at h
  ·split at h
   ·rename_i htt
    rw [if_pos htt]
    unfold zk5 at h ⊢
    split at h
    ·unfold zlC at h ⊢
     split at h
     ·split at h
      ·unfold zlM at h ⊢
       split at h
       ·exact ⟨h.1, h.2.1, zaD hk h.2.2⟩
       ·exact h
      ·exact h
     ·exact h
    ·exact h
   ·rename_i htt
    rw [if_neg htt]
    unfold zkl at h ⊢
    split at h
    ·refine ⟨h.1, ?_⟩
     have h := h.2
     unfold zpq at h ⊢
     split at h
     ·split at h
      ·exact ⟨h.1, zaD hk h.2⟩
      ·exact h
     ·exact h
    ·exact h
  ·exact h
 ·rcases h with ⟨ms, h⟩ | ⟨g, x, t, n, z, a1, a2, a3, a4, a5, a6, h⟩
  ·exact .inl ⟨ms, zje hk h⟩
  ·exact .inr ⟨g, x, t, n, z, a1, a2, a3, a4, a5, a6, zaD hk h⟩
 all_goals first
  | exact zfp hk h
  | (split at h
     ·rename_i hh; rw [if_pos hh]; exact ⟨h.1, zog hk h.2⟩
     ·rename_i hh; rw [if_neg hh]; exact zfp hk h)
  | (split at h
     ·rename_i hh; rw [if_pos hh]; exact ⟨h.1, zoH hk h.2⟩
     ·rename_i hh; rw [if_neg hh]; exact zfp hk h)
  | exact h
theorem zpm (hk : ∀ pf, K pf → K2 pf) {d : Option Tmp} {pf : PFr} (h : zf8 c d K pf) : zf8 c d K2 pf := by
 cases d with
 | none => exact hk _ h
 | some d => exact ⟨h.1, hk _ h.2⟩
theorem zmI (hk : ∀ pf, K pf → K2 pf) {b : Bool} {d : Option Tmp} {r r2 : Prop} (hr : r → r2) {pf : PFr} {y : Option (Option Bool)} (h : pgo c b d r K pf y) : pgo c b d r2 K2 pf y := by
 unfold pgo at h ⊢
 split at h
 ·split at h
  ·rename_i hh; rw [if_pos hh]; exact hr h
  ·rename_i hh; rw [if_neg hh]; exact zpm hk h
 ·exact h
theorem zqL {pre : List (Option Tmp)} : ∀ {l : List Oper} {K K2 : PFr → Prop} (_ : ∀ pf, K pf → K2 pf) {pf : PFr}, zjy P c pre l K pf → zjy P c pre l K2 pf := by
 intro l
 induction l with
 | nil => intro K K2 hk pf h; exact hk _ h
 | cons o l ih =>
  intro K K2 hk pf h
  simp only [zjy, ziG] at h ⊢
  split at h
  ·exact zh5 (fun _ hh => ih hk hh) h
  ·exact zmI (fun _ hh => ih hk hh) (zh5 fun _ hh => ih hk hh) h
theorem zln (hk : ∀ pf, K pf → K2 pf) {ext : Bool} {o : Oper} {pf : PFr} (h : zf3 P c ext o K pf) : zf3 P c ext o K2 pf := by
 unfold zf3 at h ⊢
 split at h
 ·split at h
  ·rename_i hx; rw [if_pos hx]; exact zje hk h
  ·rename_i hx; rw [if_neg hx]; exact zh5 hk h
 ·exact ⟨h.1, zh5 hk h.2⟩
theorem zpp {pre : List (Option Tmp)} : ∀ {l : List (DE × Oper)} {K K2 : PFr → Prop} (_ : ∀ pf, K pf → K2 pf) {pf : PFr}, zi7 P c pre l K pf → zi7 P c pre l K2 pf := by
 intro l
 induction l with
 | nil => intro K K2 hk pf h; exact hk _ h
 | cons x l ih =>
  obtain ⟨e, o⟩ := x
  intro K K2 hk pf h
  refine ⟨h.1, ?_⟩
  have h2 := h.2
  unfold zka at h2 ⊢
  split at h2
  ·exact zln (fun _ hh => ih hk hh) h2
  ·exact zmI (fun _ hh => ih hk hh) (zln fun _ hh => ih hk hh) h2
theorem zju : ∀ (x : Code) {Q Q2 : Exit → PFr → Prop}, (∀ e pf, Q e pf → Q2 e pf) → ∀ {pf}, pwp P c x Q pf → pwp P c x Q2 pf := by
 intro x
 induction x with
 | skip => intro Q Q2 hq pf h; exact hq _ _ h
 | region id ops draw =>
  intro Q Q2 hq pf h
  simp only [pwp] at h ⊢
  split at h
  ·rename_i hd
   rw [if_pos hd]
   obtain ⟨a, n, h⟩ := h
   exact ⟨a, n, zhm (fun _ => zpp (hq .normal)) h⟩
  ·rename_i hd; rw [if_neg hd]; exact zqL (hq .normal) h
 | seq x y ihx ihy =>
  intro Q Q2 hq pf h
  refine ihx (fun e pf h => ?_) h
  cases e <;> try exact hq _ _ h
  obtain ⟨pf2, hw, h⟩ := h
  exact ⟨pf2, hw, ihy hq h⟩
 | cond b x y ihx ihy =>
  intro Q Q2 hq pf h
  obtain ⟨pf2, hw, h⟩ := h
  refine ⟨pf2, hw, ?_⟩
  unfold zrR at h ⊢
  split at h
  ·split at h
   ·rename_i e; rw [if_pos e]; exact ihx hq h
   ·rename_i e; rw [if_neg e]; exact ihy hq h
  ·exact h
 | block id b ih =>
  intro Q Q2 hq pf h
  refine ih (fun e pf h => ?_) h
  cases e <;> try exact hq _ _ h
  simp only [ziC] at h ⊢
  split at h
  ·rename_i e; rw [if_pos e]; exact hq _ _ h
  ·rename_i e; rw [if_neg e]; exact hq _ _ h
 | loop b ih =>
  intro Q Q2 hq pf h
  obtain ⟨n, hn⟩ := h
  refine ⟨n, ?_⟩
  induction n generalizing pf with
  | zero => exact hn
  | succ n ihn =>
   obtain ⟨pf2, hw, hn⟩ := hn
   refine ⟨pf2, hw, ih (fun e pf h => ?_) hn⟩
   cases e <;> first | exact ihn h | exact hq _ _ h
 | exit id => intro Q Q2 hq pf h; exact hq _ _ h
 | ret => intro Q Q2 hq pf h; exact hq _ _ h
 | _ => intros; rename_i h; exact absurd h (by simp [pwp])
end
section
variable {P : Program} {c : Cfg} {k : List PIt} {Q : Exit → PFr → Prop} {pf : PFr}
theorem zq4 {pf' : PFr} (h : pf = pf') : pw P c k Q pf = pw P c k Q pf' := by rw [h]
@[go_sem ↓] theorem zC9 : pw P c [] Q pf = Q .normal pf := rfl
@[go_sem ↓] theorem zDe {i : Nat} : pw P c (.blk i :: k) Q pf = pw P c k Q pf := rfl
@[go_sem ↓] theorem zBB : pw P c (.code .skip :: k) Q pf = pw P c k Q pf := rfl
@[go_sem ↓] theorem ztJ {x y : Code} : pw P c (.code (.seq x y) :: k) Q pf = pw P c (.code x :: .wk y :: k) Q pf := by
 show pwp P c x (zr3 (fun pf => ∃ pf2, PWeak pf2 pf ∧ pwp P c y (zbq P c k Q) pf2) (zbq P c k Q)) pf = pwp P c x (zbq P c (.wk y :: k) Q) pf
 congr 1
 funext e
 cases e <;> rfl
@[go_sem ↓] theorem pw_block {id : Nat} {b : Code} : pw P c (.code (.block id b) :: k) Q pf = pw P c (.code b :: .blk id :: k) Q pf := by
 show pwp P c b (ziC id (zbq P c k Q)) pf = pwp P c b (zbq P c (.blk id :: k) Q) pf
 congr 1
 funext e
 cases e <;> try rfl
 funext pf
 simp only [ziC, zbq]
 split <;> rfl
theorem zlq : zbq P c k Q .ret = Q .ret := by
 induction k with
 | nil => rfl
 | cons it k ih => exact ih
@[go_sem ↓] theorem zCQ : pw P c (.code .ret :: k) Q pf = Q .ret pf := by
 show zbq P c k Q .ret pf = _
 rw [zlq]
def pwx (P : Program) (c : Cfg) (id : Nat) (k : List PIt) (Q : Exit → PFr → Prop) (pf : PFr) : Prop := zbq P c k Q (.exit id) pf
@[go_sem ↓] theorem zBX {id : Nat} : pw P c (.code (.exit id) :: k) Q pf = pwx P c id k Q pf := rfl
@[go_sem ↓] theorem zBc {id : Nat} : pwx P c id [] Q pf = Q (.exit id) pf := rfl
@[go_sem ↓] theorem zx3 {id : Nat} {x : Code} : pwx P c id (.code x :: k) Q pf = pwx P c id k Q pf := rfl
@[go_sem ↓] theorem zDc {id : Nat} {x : Code} : pwx P c id (.wk x :: k) Q pf = pwx P c id k Q pf := rfl
@[go_sem ↓] theorem zBN {id : Nat} {pre : List (Option Tmp)} {l : List Oper} : pwx P c id (.ops pre l :: k) Q pf = pwx P c id k Q pf := rfl
@[go_sem ↓] theorem zxx {id : Nat} {pre : List (Option Tmp)} {l : List (DE × Oper)} : pwx P c id (.dops pre l :: k) Q pf = pwx P c id k Q pf := rfl
@[go_sem ↓] theorem zBU {id i : Nat} : pwx P c id (.blk i :: k) Q pf = if id = i then pw P c k Q pf else pwx P c id k Q pf := by
 show (zbq P c (.blk i :: k) Q (.exit id)) pf = _
 simp only [zbq]
 split <;> rfl
def PFr.ofL : List (Nat × PF) → PFr
 | [], _ => jP
 | (s, x) :: l, t => if t = s then x else PFr.ofL l t
def zbL : List (Nat × PF) → PFr → Prop
 | [], _ => True
 | (s, x) :: l, pf => pf s = x ∧ zbL l pf
@[go_sem] theorem zux {pf : PFr} : zbL [] pf = True := rfl
@[go_sem] theorem zun {s : Nat} {x : PF} {l : List (Nat × PF)} {pf : PFr} : zbL ((s, x) :: l) pf = (pf s = x ∧ zbL l pf) := rfl
theorem zmR : ∀ {l : List (Nat × PF)} {pf : PFr}, zbL l pf → ∀ t, PFr.ofL l t = pf t ∨ PFr.ofL l t = jP := by
 intro l
 induction l with
 | nil => intro pf _ t; exact .inr rfl
 | cons p l ih =>
  intro pf h t
  obtain ⟨s, x⟩ := p
  obtain ⟨h1, h2⟩ := h
  by_cases e : t = s
  ·subst e; left; simp [PFr.ofL, h1]
  ·rcases ih h2 t with e2 | e2
   ·left; simpa [PFr.ofL, e] using e2
   ·right; simpa [PFr.ofL, e] using e2
theorem zfO {l : List (Nat × PF)} {pf : PFr} (h : zbL l pf) : PWeak (PFr.ofL l) pf := .w (zmR h)
theorem zjV : PWeak pf pf := .w fun _ => .inl rfl
theorem zaY {x : Code} (h : pw P c (.code x :: k) Q pf) : pw P c (.wk x :: k) Q pf := ⟨pf, zjV, h⟩
theorem zms {x : Code} (l : List (Nat × PF)) (ha : zbL l pf) (h : pw P c (.code x :: k) Q (PFr.ofL l)) : pw P c (.wk x :: k) Q pf := ⟨PFr.ofL l, zfO ha, h⟩
theorem zjS {b : Operand} {x y : Code} {v : Bool} (hb : rdS pf b = some (.bool v)) (ht : v = true → pw P c (.code x :: k) Q pf) (he : v = false → pw P c (.code y :: k) Q pf) :
 pw P c (.code (.cond b x y) :: k) Q pf := by
 refine ⟨pf, zjV, ?_⟩
 rw [hb]
 cases v
 ·exact he rfl
 ·exact ht rfl
theorem zlr {b : Operand} {x y : Code} (hb : rdS pf b = some (.bool true)) (ht : pw P c (.code x :: k) Q pf) : pw P c (.code (.cond b x y) :: k) Q pf := zjS hb (fun _ => ht) (fun h => by cases h)
theorem zp2 {b : Operand} {x y : Code} (hb : rdS pf b = some (.bool false)) (ht : pw P c (.code y :: k) Q pf) : pw P c (.code (.cond b x y) :: k) Q pf := zjS hb (fun h => by cases h) (fun _ => ht)
def zqz {σ : Type} (shape : σ → List (Nat × PF)) (I : σ → Prop) (meas : σ → Nat) (n : Nat) (pf : PFr) : Prop := ∃ s, zbL (shape s) pf ∧ I s ∧ meas s < n
def zp6 {σ : Type} (P : Program) (c : Cfg) (shape : σ → List (Nat × PF)) (I : σ → Prop) (meas : σ → Nat) (n : Nat) (k : List PIt) (Q : Exit → PFr → Prop) : Exit → PFr → Prop
 | .normal, pf => zqz shape I meas n pf
 | e, pf => zbq P c k Q e pf
@[go_sem ↓] theorem zs2 {σ : Type} {shape : σ → List (Nat × PF)} {I : σ → Prop} {meas : σ → Nat} {n : Nat} : zp6 P c shape I meas n k Q .normal pf = zqz shape I meas n pf := rfl
@[go_sem ↓] theorem zuf {σ : Type} {shape : σ → List (Nat × PF)} {I : σ → Prop} {meas : σ → Nat} {n id : Nat} : zp6 P c shape I meas n k Q (.exit id) pf = pwx P c id k Q pf := rfl
end
end Go.Pm
