import Derived.Test.YtpkjdjnakplnjaaGreatPmR
namespace Go.Pm
open Go.Am
inductive PIt where
 | code (c : Code)
 | wk (c : Code)
 | ops (pre : List (Option Tmp)) (l : List Oper)
 | dops (pre : List (Option Tmp)) (l : List (DE × Oper))
 | blk (id : Nat)
def zbY (P : Program) (c : Cfg) : List PIt → (Exit → PFr → Prop) → Exit → PFr → Prop
 | [], Q, e => Q e
 | it :: k, Q, e => match e with
  | .normal => match it with
   | .code x => pwp P c x (zbY P c k Q)
   | .wk x => fun pf => ∃ pf2, PWeak pf2 pf ∧ pwp P c x (zbY P c k Q) pf2
   | .ops pre l => zmi P c pre l (zbY P c k Q .normal)
   | .dops pre l => zld P c pre l (zbY P c k Q .normal)
   | .blk _ => zbY P c k Q .normal
  | .exit id => match it with
   | .blk i => if id = i then zbY P c k Q .normal else zbY P c k Q (.exit id)
   | _ => zbY P c k Q (.exit id)
  | e => zbY P c k Q e
def pw (P : Program) (c : Cfg) (k : List PIt) (Q : Exit → PFr → Prop) (pf : PFr) : Prop := zbY P c k Q .normal pf
section
variable {P : Program} {c : Cfg} {K K2 : PFr → Prop}
theorem zuo (hk : ∀ pf, K pf → K2 pf) {d : Nat} {x : Option (PF × PFr)} (h : pfz K d x) : pfz K2 d x := by
 cases x with
 | none => exact h
 | some x => exact hk _ h
theorem zaT (hk : ∀ pf, K pf → K2 pf) {d : Option Tmp} {y : PF} {pf : PFr} (h : zbV c K d y pf) : zbV c K2 d y pf := by
 cases d with
 | none => exact hk _ h
 | some d =>
  refine ⟨h.1, ?_⟩
  have h2 := h.2
  split at h2
  ·rename_i hh; rw [if_pos hh]; exact zuo hk h2
  ·rename_i hh; rw [if_neg hh]; exact hk _ h2
theorem zoE (hk : ∀ pf, K pf → K2 pf) {d : Option Tmp} {pf : PFr} {x : Option AD} (h : pad c K d pf x) : pad c K2 d pf x := by
 cases x with
 | none => exact h
 | some x => exact zaT hk h
theorem zgY (hk : ∀ pf, K pf → K2 pf) {o : Oper} {pf : PFr} (h : zeg P c o K pf) : zeg P c o K2 pf := by
 unfold zeg at h ⊢
 split at h
 ·split at h
  ·exact zaT hk h
  ·exact h
 ·exact h
theorem zsZ (hk : ∀ pf, K pf → K2 pf) {d : Option Tmp} {r : PV} {x : Option PFr} (h : zri c d K r x) : zri c d K2 r x := by
 cases x with
 | none => exact h
 | some x => exact zaT hk h
theorem zly (hk : ∀ pf, K pf → K2 pf) {f : Operand} {args : List Operand} {ts : List TypeId} {d : Option Tmp} {pf : PFr} {ms : List Md} (h : zk1 P c f args ts d K pf ms) : zk1 P c f args ts d K2 pf ms := by
 refine ⟨h.1, ?_⟩
 have h2 := h.2
 unfold zoQ at h2 ⊢
 split at h2
 ·unfold zkL at h2 ⊢
  split at h2
  ·exact h2.mono fun r outs hh => ⟨hh.1, zsZ hk hh.2⟩
  ·exact h2
 ·exact h2
theorem zsj (hk : ∀ pf, K pf → K2 pf) {op : BinOp} {t : TypeId} {x : Operand} {d : Option Tmp} {pf : PFr} (h : zj2 P c op t x d K pf) : zj2 P c op t x d K2 pf := by
 unfold zj2 at h ⊢
 split at h
 ·exact ⟨h.1, fun b hb => zaT hk (h.2 b hb)⟩
 ·exact h
theorem zrV (hk : ∀ pf, K pf → K2 pf) {s t : TypeId} {x : Operand} {d : Option Tmp} {pf : PFr} (h : zh5 P c s t x d K pf) : zh5 P c s t x d K2 pf := by
 unfold zh5 at h ⊢
 split at h
 ·exact ⟨h.1, zaT hk h.2⟩
 ·exact h
theorem zj4 (hk : ∀ pf, K pf → K2 pf) {o : Oper} {pf : PFr} (h : pop P c o K pf) : pop P c o K2 pf := by
 unfold pop at h ⊢
 split at h
 ·unfold zlq at h ⊢
  split at h
  ·exact zaT hk h
  ·split at h
   ·exact zaT hk h
   ·exact h
 ·unfold zjC at h ⊢
  split at h
  ·refine ⟨h.1, h.2.1, ?_⟩
   have h3 := h.2.2
   unfold zif at h3 ⊢
   split at h3
   ·split at h3
    ·exact hk _ h3
    ·exact h3
   ·exact h3
  ·exact h
 ·exact zoE hk h
 ·unfold zjq at h ⊢
  split at h
  ·exact zaT hk h
  ·split at h
   ·exact zaT hk h
   ·exact h
 ·exact zoE hk h
 ·unfold zjk at h ⊢
  split at h
  ·refine ⟨h.1, ?_⟩
   have h3 := h.2
   split at h3
   ·rename_i hh; rw [if_pos hh]; exact hk _ h3
   ·rename_i hh; rw [if_neg hh]; exact hk _ h3
  ·exact h
 ·unfold znC at h ⊢
  split at h
  ·refine ⟨h.1, h.2.1, h.2.2.1, ?_⟩
   have h3 := h.2.2.2
   split at h3
   ·rename_i hh; rw [if_pos hh]
    split at h3
    ·rename_i hh; rw [if_pos hh]; exact hk _ h3
    ·rename_i hh; rw [if_neg hh]; exact hk _ h3
   ·rename_i hh; rw [if_neg hh]; exact hk _ h3
  ·exact h
 ·unfold znn at h ⊢
  split at h
  ·rename_i hm
   rw [if_pos hm]
   unfold zmY at h ⊢
   split at h
   ·exact zaT hk h
   ·exact h
  rename_i hm
  rw [if_neg hm]
  split at h
  ·refine ⟨h.1, ?_⟩
   have h3 := h.2
   unfold zop at h3 ⊢
   split at h3
   ·exact ⟨h3.1, hk _ h3.2⟩
   ·exact h3
  ·exact h
 ·unfold zjH at h ⊢
  split at h
  ·unfold zrl at h ⊢
   split at h
   ·exact zaT hk h
   ·exact h
  ·exact h
 ·unfold zle zrr at h ⊢
  split at h
  ·split at h
   ·exact zaT hk h
   ·exact h
  ·split at h
   ·exact zaT hk h
   ·exact h
  ·exact h
 ·unfold zk8 at h ⊢
  split at h
  ·unfold zr8 at h ⊢
   split at h
   ·exact ⟨h.1, zaT hk h.2⟩
   ·exact h
  ·exact h
 ·unfold zln at h ⊢
  split at h
  ·exact zaT hk h
  ·exact h
 ·unfold zhc at h ⊢
  split at h
  ·unfold zgu at h ⊢
   split at h
   ·refine ⟨h.1, ?_⟩
    have h3 := h.2
    split at h3
    ·rename_i hh; rw [if_pos hh]; exact zaT hk h3
    ·rename_i hh; rw [if_neg hh]; exact zaT hk h3
   ·exact ⟨h.1, zaT hk h.2⟩
   ·exact zaT hk h
   ·exact h
   ·exact h
   ·exact zaT hk h
  ·split at h
   ·exact zaT hk h
   ·exact h
 ·unfold zib at h ⊢
  split at h
  ·exact zaT hk h
  ·split at h
   ·exact zaT hk h
   ·exact h
 ·unfold zhl at h ⊢
  split at h
  ·refine ⟨h.1, ?_⟩
   have h2 := h.2
   unfold pex at h2 ⊢
   split at h2
   ·refine ⟨h2.1, ?_⟩
    have h3 := h2.2
    split at h3
    ·rename_i hh; rw [if_pos hh]; exact zaT hk h3
    ·rename_i hh; rw [if_neg hh]; exact zaT hk h3
   ·exact h2
  ·exact h
 ·split at h
  ·rename_i hh; rw [if_pos hh]; exact zgY hk h
  ·rename_i hh; rw [if_neg hh]
   unfold zjF at h ⊢
   split at h
   ·unfold znM at h ⊢
    split at h
    ·split at h
     ·exact zaT hk h
     ·exact h
    ·split at h
     ·exact ⟨h.1, h.2.1, zaT hk h.2.2⟩
     ·exact h
    ·exact h
   ·exact h
 ·unfold zrw at h ⊢
  split at h
  ·split at h
   ·rename_i hh; rw [if_pos hh]; exact zgY hk h
   ·rename_i hh; rw [if_neg hh]
    unfold zl9 at h ⊢
    split at h
    ·split at h
     ·exact fun hl => zaT hk (h hl)
     ·exact h
    ·exact h
  ·exact h
 ·unfold zq8 at h ⊢
  split at h
  ·split at h
   ·rename_i htt
    rw [if_pos htt]
    unfold znu at h ⊢
    split at h
    ·unfold zoh at h ⊢
     split at h
     ·split at h
      ·unfold zoj at h ⊢
       split at h
       ·exact ⟨h.1, h.2.1, zaT hk h.2.2⟩
       ·exact h
      ·exact h
     ·exact h
    ·exact h
   ·rename_i htt
    rw [if_neg htt]
    unfold zmt at h ⊢
    split at h
    ·refine ⟨h.1, ?_⟩
     have h := h.2
     unfold zsk at h ⊢
     split at h
     ·split at h
      ·exact ⟨h.1, zaT hk h.2⟩
      ·exact h
     ·exact h
    ·exact h
  ·exact h
 ·rcases h with ⟨ms, h⟩ | ⟨g, x, t, n, z, a1, a2, a3, a4, a5, a6, h⟩
  ·exact .inl ⟨ms, zly hk h⟩
  ·exact .inr ⟨g, x, t, n, z, a1, a2, a3, a4, a5, a6, zaT hk h⟩
 all_goals first
  | exact zgY hk h
  | (split at h
     ·rename_i hh; rw [if_pos hh]; exact ⟨h.1, zsj hk h.2⟩
     ·rename_i hh; rw [if_neg hh]; exact zgY hk h)
  | (split at h
     ·rename_i hh; rw [if_pos hh]; exact ⟨h.1, zrV hk h.2⟩
     ·rename_i hh; rw [if_neg hh]; exact zgY hk h)
  | exact h
theorem zry (hk : ∀ pf, K pf → K2 pf) {d : Option Tmp} {pf : PFr} (h : zhx c d K pf) : zhx c d K2 pf := by
 cases d with
 | none => exact hk _ h
 | some d => exact ⟨h.1, hk _ h.2⟩
theorem zpe (hk : ∀ pf, K pf → K2 pf) {b : Bool} {d : Option Tmp} {r r2 : Prop} (hr : r → r2) {pf : PFr} {y : Option (Option Bool)} (h : pgo c b d r K pf y) : pgo c b d r2 K2 pf y := by
 unfold pgo at h ⊢
 split at h
 ·split at h
  ·rename_i hh; rw [if_pos hh]; exact hr h
  ·rename_i hh; rw [if_neg hh]; exact zry hk h
 ·exact h
theorem ztW {pre : List (Option Tmp)} : ∀ {l : List Oper} {K K2 : PFr → Prop} (_ : ∀ pf, K pf → K2 pf) {pf : PFr}, zmi P c pre l K pf → zmi P c pre l K2 pf := by
 intro l
 induction l with
 | nil => intro K K2 hk pf h; exact hk _ h
 | cons o l ih =>
  intro K K2 hk pf h
  simp only [zmi, zkC] at h ⊢
  split at h
  ·exact zj4 (fun _ hh => ih hk hh) h
  ·exact zpe (fun _ hh => ih hk hh) (zj4 fun _ hh => ih hk hh) h
theorem zn6 (hk : ∀ pf, K pf → K2 pf) {ext : Bool} {o : Oper} {pf : PFr} (h : zhM P c ext o K pf) : zhM P c ext o K2 pf := by
 unfold zhM at h ⊢
 split at h
 ·split at h
  ·rename_i hx; rw [if_pos hx]; exact zly hk h
  ·rename_i hx; rw [if_neg hx]; exact zj4 hk h
 ·exact ⟨h.1, zj4 hk h.2⟩
theorem zse {pre : List (Option Tmp)} : ∀ {l : List (DE × Oper)} {K K2 : PFr → Prop} (_ : ∀ pf, K pf → K2 pf) {pf : PFr}, zld P c pre l K pf → zld P c pre l K2 pf := by
 intro l
 induction l with
 | nil => intro K K2 hk pf h; exact hk _ h
 | cons x l ih =>
  obtain ⟨e, o⟩ := x
  intro K K2 hk pf h
  refine ⟨h.1, ?_⟩
  have h2 := h.2
  unfold zmC at h2 ⊢
  split at h2
  ·exact zn6 (fun _ hh => ih hk hh) h2
  ·exact zpe (fun _ hh => ih hk hh) (zn6 fun _ hh => ih hk hh) h2
theorem zlT : ∀ (x : Code) {Q Q2 : Exit → PFr → Prop}, (∀ e pf, Q e pf → Q2 e pf) → ∀ {pf}, pwp P c x Q pf → pwp P c x Q2 pf := by
 intro x
 induction x with
 | skip => intro Q Q2 hq pf h; exact hq _ _ h
 | region id ops draw =>
  intro Q Q2 hq pf h
  simp only [pwp] at h ⊢
  split at h
  ·rename_i hd
   rw [if_pos hd]
   obtain ⟨a, n, h⟩ := h
   exact ⟨a, n, zji (fun _ => zse (hq .normal)) h⟩
  ·rename_i hd; rw [if_neg hd]; exact ztW (hq .normal) h
 | seq x y ihx ihy =>
  intro Q Q2 hq pf h
  refine ihx (fun e pf h => ?_) h
  cases e <;> try exact hq _ _ h
  obtain ⟨pf2, hw, h⟩ := h
  exact ⟨pf2, hw, ihy hq h⟩
 | cond b x y ihx ihy =>
  intro Q Q2 hq pf h
  obtain ⟨pf2, hw, h⟩ := h
  refine ⟨pf2, hw, ?_⟩
  unfold zuj at h ⊢
  split at h
  ·split at h
   ·rename_i e; rw [if_pos e]; exact ihx hq h
   ·rename_i e; rw [if_neg e]; exact ihy hq h
  ·exact h
 | block id b ih =>
  intro Q Q2 hq pf h
  refine ih (fun e pf h => ?_) h
  cases e <;> try exact hq _ _ h
  simp only [zkJ] at h ⊢
  split at h
  ·rename_i e; rw [if_pos e]; exact hq _ _ h
  ·rename_i e; rw [if_neg e]; exact hq _ _ h
 | loop b ih =>
  intro Q Q2 hq pf h
  obtain ⟨n, hn⟩ := h
  refine ⟨n, ?_⟩
  induction n generalizing pf with
  | zero => exact hn
  | succ n ihn =>
   obtain ⟨pf2, hw, hn⟩ := hn
   refine ⟨pf2, hw, ih (fun e pf h => ?_) hn⟩
   cases e <;> first | exact ihn h | exact hq _ _ h
 | exit id => intro Q Q2 hq pf h; exact hq _ _ h
 | ret => intro Q Q2 hq pf h; exact hq _ _ h
 | _ => intros; rename_i h; exact absurd h (by simp [pwp])
end
section
variable {P : Program} {c : Cfg} {k : List PIt} {Q : Exit → PFr → Prop} {pf : PFr}
theorem zuZ {pf' : PFr} (h : pf = pf') : pw P c k Q pf = pw P c k Q pf' := by rw [h]
@[go_sem ↓] theorem zK9 : pw P c [] Q pf = Q .normal pf := rfl
@[go_sem ↓] theorem zKE {i : Nat} : pw P c (.blk i :: k) Q pf = pw P c k Q pf := rfl
@[go_sem ↓] theorem zJL : pw P c (.code .skip :: k) Q pf = pw P c k Q pf := rfl
@[go_sem ↓] theorem zpl {x y : Code} : pw P c (.code (.seq x y) :: k) Q pf = pw P c (.code x :: .wk y :: k) Q pf := by
 show pwp P c x (zvh (fun pf => ∃ pf2, PWeak pf2 pf ∧ pwp P c y (zbY P c k Q) pf2) (zbY P c k Q)) pf = pwp P c x (zbY P c (.wk y :: k) Q) pf
 congr 1
 funext e
 cases e <;> rfl
@[go_sem ↓] theorem pw_block {id : Nat} {b : Code} : pw P c (.code (.block id b) :: k) Q pf = pw P c (.code b :: .blk id :: k) Q pf := by
 show pwp P c b (zkJ id (zbY P c k Q)) pf = pwp P c b (zbY P c (.blk id :: k) Q) pf
 congr 1
 funext e
 cases e <;> try rfl
 funext pf
 simp only [zkJ, zbY]
 split <;> rfl
theorem zkK : zbY P c k Q .ret = Q .ret := by
 induction k with
 | nil => rfl
 | cons it k ih => exact ih
@[go_sem ↓] theorem zKu : pw P c (.code .ret :: k) Q pf = Q .ret pf := by
 show zbY P c k Q .ret pf = _
 rw [zkK]
def pwx (P : Program) (c : Cfg) (id : Nat) (k : List PIt) (Q : Exit → PFr → Prop) (pf : PFr) : Prop := zbY P c k Q (.exit id) pf
@[go_sem ↓] theorem zH3 {id : Nat} : pw P c (.code (.exit id) :: k) Q pf = pwx P c id k Q pf := rfl
@[go_sem ↓] theorem zJU {id : Nat} : pwx P c id [] Q pf = Q (.exit id) pf := rfl
@[go_sem ↓] theorem zFy {id : Nat} {x : Code} : pwx P c id (.code x :: k) Q pf = pwx P c id k Q pf := rfl
@[go_sem ↓] theorem zKC {id : Nat} {x : Code} : pwx P c id (.wk x :: k) Q pf = pwx P c id k Q pf := rfl
@[go_sem ↓] theorem zJq {id : Nat} {pre : List (Option Tmp)} {l : List Oper} : pwx P c id (.ops pre l :: k) Q pf = pwx P c id k Q pf := rfl
@[go_sem ↓] theorem zFL {id : Nat} {pre : List (Option Tmp)} {l : List (DE × Oper)} : pwx P c id (.dops pre l :: k) Q pf = pwx P c id k Q pf := rfl
@[go_sem ↓] theorem zHi {id i : Nat} : pwx P c id (.blk i :: k) Q pf = if id = i then pw P c k Q pf else pwx P c id k Q pf := by
 show (zbY P c (.blk i :: k) Q (.exit id)) pf = _
 simp only [zbY]
 split <;> rfl
def PFr.ofL : List (Nat × PF) → PFr
 | [], _ => jP
 | (s, x) :: l, t => if t = s then x else PFr.ofL l t
def zcC : List (Nat × PF) → PFr → Prop
 | [], _ => True
 | (s, x) :: l, pf => pf s = x ∧ zcC l pf
@[go_sem] theorem zAL {pf : PFr} : zcC [] pf = True := rfl
@[go_sem] theorem zyx {s : Nat} {x : PF} {l : List (Nat × PF)} {pf : PFr} : zcC ((s, x) :: l) pf = (pf s = x ∧ zcC l pf) := rfl
theorem zpa : ∀ {l : List (Nat × PF)} {pf : PFr}, zcC l pf → ∀ t, PFr.ofL l t = pf t ∨ PFr.ofL l t = jP := by
 intro l
 induction l with
 | nil => intro pf _ t; exact .inr rfl
 | cons p l ih =>
  intro pf h t
  obtain ⟨s, x⟩ := p
  obtain ⟨h1, h2⟩ := h
  by_cases e : t = s
  ·subst e; left; simp [PFr.ofL, h1]
  ·rcases ih h2 t with e2 | e2
   ·left; simpa [PFr.ofL, e] using e2
   ·right; simpa [PFr.ofL, e] using e2
theorem zhz {l : List (Nat × PF)} {pf : PFr} (h : zcC l pf) : PWeak (PFr.ofL l) pf := .w (zpa h)
theorem zmK : PWeak pf pf := .w fun _ => .inl rfl
theorem zay {x : Code} (h : pw P c (.code x :: k) Q pf) : pw P c (.wk x :: k) Q pf := ⟨pf, zmK, h⟩
theorem zkx {x : Code} (l : List (Nat × PF)) (ha : zcC l pf) (h : pw P c (.code x :: k) Q (PFr.ofL l)) : pw P c (.wk x :: k) Q pf := ⟨PFr.ofL l, zhz ha, h⟩
theorem zmb {b : Operand} {x y : Code} {v : Bool} (hb : rdS pf b = some (.bool v)) (ht : v = true → pw P c (.code x :: k) Q pf) (he : v = false → pw P c (.code y :: k) Q pf) :
 pw P c (.code (.cond b x y) :: k) Q pf := by
 refine ⟨pf, zmK, ?_⟩
 rw [hb]
 cases v
 ·exact he rfl
 ·exact ht rfl
theorem zk4 {b : Operand} {x y : Code} (hb : rdS pf b = some (.bool true)) (ht : pw P c (.code x :: k) Q pf) : pw P c (.code (.cond b x y) :: k) Q pf := zmb hb (fun _ => ht) (fun h => by cases h)
theorem zku {b : Operand} {x y : Code} (hb : rdS pf b = some (.bool false)) (ht : pw P c (.code y :: k) Q pf) : pw P c (.code (.cond b x y) :: k) Q pf := zmb hb (fun h => by cases h) (fun _ => ht)
def zs9 {σ : Type} (shape : σ → List (Nat × PF)) (I : σ → Prop) (meas : σ → Nat) (n : Nat) (pf : PFr) : Prop := ∃ s, zcC (shape s) pf ∧ I s ∧ meas s < n
def zpb {σ : Type} (P : Program) (c : Cfg) (shape : σ → List (Nat × PF)) (I : σ → Prop) (meas : σ → Nat) (n : Nat) (k : List PIt) (Q : Exit → PFr → Prop) : Exit → PFr → Prop
 | .normal, pf => zs9 shape I meas n pf
 | e, pf => zbY P c k Q e pf
@[go_sem ↓] theorem zwp {σ : Type} {shape : σ → List (Nat × PF)} {I : σ → Prop} {meas : σ → Nat} {n : Nat} : zpb P c shape I meas n k Q .normal pf = zs9 shape I meas n pf := rfl
@[go_sem ↓] theorem zyO {σ : Type} {shape : σ → List (Nat × PF)} {I : σ → Prop} {meas : σ → Nat} {n id : Nat} : zpb P c shape I meas n k Q (.exit id) pf = pwx P c id k Q pf := rfl
@[go_sem ↓] theorem zyW {σ : Type} {shape : σ → List (Nat × PF)} {I : σ → Prop} {meas : σ → Nat} {n : Nat} : zpb P c shape I meas n k Q .ret pf = Q .ret pf := by
 show zbY P c k Q .ret pf = _
 rw [zkK]
end
end Go.Pm
