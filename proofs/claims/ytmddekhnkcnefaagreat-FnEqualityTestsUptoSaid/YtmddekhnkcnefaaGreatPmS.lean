import Derived.Test.YtmddekhnkcnefaaGreatPmR
namespace Go.Pm
open Go.Am
inductive PIt where
 | code (c : Code)
 | wk (c : Code)
 | ops (pre : List (Option Tmp)) (l : List Oper)
 | dops (pre : List (Option Tmp)) (l : List (DE × Oper))
 | blk (id : Nat)
def zbP (P : Program) (c : Cfg) : List PIt → (Exit → PFr → Prop) → Exit → PFr → Prop
 | [], Q, e => Q e
 | it :: k, Q, e => match e with
  | .normal => match it with
   | .code x => pwp P c x (zbP P c k Q)
   | .wk x => fun pf => ∃ pf2, PWeak pf2 pf ∧ pwp P c x (zbP P c k Q) pf2
   | .ops pre l => zmS P c pre l (zbP P c k Q .normal)
   | .dops pre l => zlL P c pre l (zbP P c k Q .normal)
   | .blk _ => zbP P c k Q .normal
  | .exit id => match it with
   | .blk i => if id = i then zbP P c k Q .normal else zbP P c k Q (.exit id)
   | _ => zbP P c k Q (.exit id)
  | e => zbP P c k Q e
def pw (P : Program) (c : Cfg) (k : List PIt) (Q : Exit → PFr → Prop) (pf : PFr) : Prop := zbP P c k Q .normal pf
section
variable {P : Program} {c : Cfg} {K K2 : PFr → Prop}
theorem zva (hk : ∀ pf, K pf → K2 pf) {d : Nat} {x : Option (PF × PFr)} (h : pfz K d x) : pfz K2 d x := by
 cases x with
 | none => exact h
 | some x => exact hk _ h
theorem zaI (hk : ∀ pf, K pf → K2 pf) {d : Option Tmp} {y : PF} {pf : PFr} (h : zbE c K d y pf) : zbE c K2 d y pf := by
 cases d with
 | none => exact hk _ h
 | some d =>
  refine ⟨h.1, ?_⟩
  have h2 := h.2
  split at h2
  ·rename_i hh; rw [if_pos hh]; exact zva hk h2
  ·rename_i hh; rw [if_neg hh]; exact hk _ h2
theorem zpI (hk : ∀ pf, K pf → K2 pf) {d : Option Tmp} {pf : PFr} {x : Option AD} (h : pad c K d pf x) : pad c K2 d pf x := by
 cases x with
 | none => exact h
 | some x => exact zaI hk h
theorem zhl (hk : ∀ pf, K pf → K2 pf) {o : Oper} {pf : PFr} (h : zer P c o K pf) : zer P c o K2 pf := by
 unfold zer at h ⊢
 split at h
 ·split at h
  ·exact zaI hk h
  ·exact h
 ·exact h
theorem ztY (hk : ∀ pf, K pf → K2 pf) {d : Option Tmp} {r : PV} {x : Option PFr} (h : ztc c d K r x) : ztc c d K2 r x := by
 cases x with
 | none => exact h
 | some x => exact zaI hk h
theorem zmf (hk : ∀ pf, K pf → K2 pf) {f : Operand} {args : List Operand} {ts : List TypeId} {d : Option Tmp} {pf : PFr} {ms : List Md} (h : zkT P c f args ts d K pf ms) : zkT P c f args ts d K2 pf ms := by
 refine ⟨h.1, ?_⟩
 have h2 := h.2
 unfold zqq at h2 ⊢
 split at h2
 ·unfold zk5 at h2 ⊢
  split at h2
  ·exact h2.mono fun r outs hh => ⟨hh.1, ztY hk hh.2⟩
  ·exact h2
 ·exact h2
theorem zs4 (hk : ∀ pf, K pf → K2 pf) {op : BinOp} {t : TypeId} {x : Operand} {d : Option Tmp} {pf : PFr} (h : zkh P c op t x d K pf) : zkh P c op t x d K2 pf := by
 unfold zkh at h ⊢
 split at h
 ·exact ⟨h.1, fun b hb => zaI hk (h.2 b hb)⟩
 ·exact h
theorem zsc (hk : ∀ pf, K pf → K2 pf) {s t : TypeId} {x : Operand} {d : Option Tmp} {pf : PFr} (h : zkt P c s t x d K pf) : zkt P c s t x d K2 pf := by
 unfold zkt at h ⊢
 split at h
 ·exact ⟨h.1, zaI hk h.2⟩
 ·exact h
theorem zkv (hk : ∀ pf, K pf → K2 pf) {o : Oper} {pf : PFr} (h : pop P c o K pf) : pop P c o K2 pf := by
 unfold pop at h ⊢
 split at h
 ·unfold zlU at h ⊢
  split at h
  ·exact zaI hk h
  ·split at h
   ·exact zaI hk h
   ·exact h
 ·unfold zj4 at h ⊢
  split at h
  ·refine ⟨h.1, h.2.1, ?_⟩
   have h3 := h.2.2
   unfold zir at h3 ⊢
   split at h3
   ·split at h3
    ·exact hk _ h3
    ·exact h3
   ·exact h3
  ·exact h
 ·exact zpI hk h
 ·unfold zj6 at h ⊢
  split at h
  ·exact zaI hk h
  ·split at h
   ·exact zaI hk h
   ·exact h
 ·exact zpI hk h
 ·unfold zjZ at h ⊢
  split at h
  ·refine ⟨h.1, ?_⟩
   have h3 := h.2
   split at h3
   ·rename_i hh; rw [if_pos hh]; exact hk _ h3
   ·rename_i hh; rw [if_neg hh]; exact hk _ h3
  ·exact h
 ·unfold zoh at h ⊢
  split at h
  ·refine ⟨h.1, h.2.1, h.2.2.1, ?_⟩
   have h3 := h.2.2.2
   split at h3
   ·rename_i hh; rw [if_pos hh]
    split at h3
    ·rename_i hh; rw [if_pos hh]; exact hk _ h3
    ·rename_i hh; rw [if_neg hh]; exact hk _ h3
   ·rename_i hh; rw [if_neg hh]; exact hk _ h3
  ·exact h
 ·unfold znR at h ⊢
  split at h
  ·rename_i hm
   rw [if_pos hm]
   unfold znv at h ⊢
   split at h
   ·exact zaI hk h
   ·exact h
  rename_i hm
  rw [if_neg hm]
  split at h
  ·refine ⟨h.1, ?_⟩
   have h3 := h.2
   unfold zpg at h3 ⊢
   split at h3
   ·exact ⟨h3.1, hk _ h3.2⟩
   ·exact h3
  ·exact h
 ·unfold zj7 at h ⊢
  split at h
  ·unfold zsb at h ⊢
   split at h
   ·exact zaI hk h
   ·exact h
  ·exact h
 ·unfold zlI zsP at h ⊢
  split at h
  ·split at h
   ·exact zaI hk h
   ·exact h
  ·split at h
   ·exact zaI hk h
   ·exact h
  ·exact h
 ·unfold zlN at h ⊢
  split at h
  ·unfold zsm at h ⊢
   split at h
   ·exact ⟨h.1, zaI hk h.2⟩
   ·exact h
  ·exact h
 ·unfold zlQ at h ⊢
  split at h
  ·exact zaI hk h
  ·exact h
 ·unfold zif at h ⊢
  split at h
  ·unfold zgB at h ⊢
   split at h
   ·refine ⟨h.1, ?_⟩
    have h3 := h.2
    split at h3
    ·rename_i hh; rw [if_pos hh]; exact zaI hk h3
    ·rename_i hh; rw [if_neg hh]; exact zaI hk h3
   ·exact ⟨h.1, zaI hk h.2⟩
   ·exact zaI hk h
   ·exact h
   ·exact h
   ·exact zaI hk h
  ·split at h
   ·exact zaI hk h
   ·exact h
 ·unfold ziz at h ⊢
  split at h
  ·exact zaI hk h
  ·split at h
   ·exact zaI hk h
   ·exact h
 ·unfold zhK at h ⊢
  split at h
  ·refine ⟨h.1, ?_⟩
   have h2 := h.2
   unfold pex at h2 ⊢
   split at h2
   ·refine ⟨h2.1, ?_⟩
    have h3 := h2.2
    split at h3
    ·rename_i hh; rw [if_pos hh]; exact zaI hk h3
    ·rename_i hh; rw [if_neg hh]; exact zaI hk h3
   ·exact h2
  ·exact h
 ·split at h
  ·rename_i hh; rw [if_pos hh]; exact zhl hk h
  ·rename_i hh; rw [if_neg hh]
   unfold zjV at h ⊢
   split at h
   ·unfold znO at h ⊢
    split at h
    ·split at h
     ·exact zaI hk h
     ·exact h
    ·split at h
     ·exact ⟨h.1, h.2.1, zaI hk h.2.2⟩
     ·exact h
    ·exact h
   ·exact h
 ·unfold zs2 at h ⊢
  split at h
  ·split at h
   ·rename_i hh; rw [if_pos hh]; exact zhl hk h
   ·rename_i hh; rw [if_neg hh]
    unfold zmz at h ⊢
    split at h
    ·split at h
     ·exact fun hl => zaI hk (h hl)
     ·exact h
    ·exact h
  ·exact h
 ·unfold zsB at h ⊢
  split at h
  ·split at h
   ·rename_i htt
    rw [if_pos htt]
    unfold zop at h ⊢
    split at h
    ·unfold zpe at h ⊢
     split at h
     ·split at h
      ·unfold zpm at h ⊢
       split at h
       ·exact ⟨h.1, h.2.1, zaI hk h.2.2⟩
       ·exact h
      ·exact h
     ·exact h
    ·exact h
   ·rename_i htt
    rw [if_neg htt]
    unfold znt at h ⊢
    split at h
    ·refine ⟨h.1, ?_⟩
     have h := h.2
     unfold zsM at h ⊢
     split at h
     ·split at h
      ·exact ⟨h.1, zaI hk h.2⟩
      ·exact h
     ·exact h
    ·exact h
  ·exact h
 ·rcases h with ⟨ms, h⟩ | ⟨g, x, t, n, z, a1, a2, a3, a4, a5, a6, h⟩
  ·exact .inl ⟨ms, zmf hk h⟩
  ·exact .inr ⟨g, x, t, n, z, a1, a2, a3, a4, a5, a6, zaI hk h⟩
 all_goals first
  | exact zhl hk h
  | (split at h
     ·rename_i hh; rw [if_pos hh]; exact ⟨h.1, zs4 hk h.2⟩
     ·rename_i hh; rw [if_neg hh]; exact zhl hk h)
  | (split at h
     ·rename_i hh; rw [if_pos hh]; exact ⟨h.1, zsc hk h.2⟩
     ·rename_i hh; rw [if_neg hh]; exact zhl hk h)
  | exact h
theorem zss (hk : ∀ pf, K pf → K2 pf) {d : Option Tmp} {pf : PFr} (h : zig c d K pf) : zig c d K2 pf := by
 cases d with
 | none => exact hk _ h
 | some d => exact ⟨h.1, hk _ h.2⟩
theorem zqd (hk : ∀ pf, K pf → K2 pf) {b : Bool} {d : Option Tmp} {r r2 : Prop} (hr : r → r2) {pf : PFr} {y : Option (Option Bool)} (h : pgo c b d r K pf y) : pgo c b d r2 K2 pf y := by
 unfold pgo at h ⊢
 split at h
 ·split at h
  ·rename_i hh; rw [if_pos hh]; exact hr h
  ·rename_i hh; rw [if_neg hh]; exact zss hk h
 ·exact h
theorem ztV {pre : List (Option Tmp)} : ∀ {l : List Oper} {K K2 : PFr → Prop} (_ : ∀ pf, K pf → K2 pf) {pf : PFr}, zmS P c pre l K pf → zmS P c pre l K2 pf := by
 intro l
 induction l with
 | nil => intro K K2 hk pf h; exact hk _ h
 | cons o l ih =>
  intro K K2 hk pf h
  simp only [zmS, zlD] at h ⊢
  split at h
  ·exact zkv (fun _ hh => ih hk hh) h
  ·exact zqd (fun _ hh => ih hk hh) (zkv fun _ hh => ih hk hh) h
theorem zoL (hk : ∀ pf, K pf → K2 pf) {ext : Bool} {o : Oper} {pf : PFr} (h : zh6 P c ext o K pf) : zh6 P c ext o K2 pf := by
 unfold zh6 at h ⊢
 split at h
 ·split at h
  ·rename_i hx; rw [if_pos hx]; exact zmf hk h
  ·rename_i hx; rw [if_neg hx]; exact zkv hk h
 ·exact ⟨h.1, zkv hk h.2⟩
theorem zsq {pre : List (Option Tmp)} : ∀ {l : List (DE × Oper)} {K K2 : PFr → Prop} (_ : ∀ pf, K pf → K2 pf) {pf : PFr}, zlL P c pre l K pf → zlL P c pre l K2 pf := by
 intro l
 induction l with
 | nil => intro K K2 hk pf h; exact hk _ h
 | cons x l ih =>
  obtain ⟨e, o⟩ := x
  intro K K2 hk pf h
  refine ⟨h.1, ?_⟩
  have h2 := h.2
  unfold zm5 at h2 ⊢
  split at h2
  ·exact zoL (fun _ hh => ih hk hh) h2
  ·exact zqd (fun _ hh => ih hk hh) (zoL fun _ hh => ih hk hh) h2
theorem zmI : ∀ (x : Code) {Q Q2 : Exit → PFr → Prop}, (∀ e pf, Q e pf → Q2 e pf) → ∀ {pf}, pwp P c x Q pf → pwp P c x Q2 pf := by
 intro x
 induction x with
 | skip => intro Q Q2 hq pf h; exact hq _ _ h
 | region id ops draw =>
  intro Q Q2 hq pf h
  simp only [pwp] at h ⊢
  split at h
  ·rename_i hd
   rw [if_pos hd]
   obtain ⟨a, n, h⟩ := h
   exact ⟨a, n, zjF (fun _ => zsq (hq .normal)) h⟩
  ·rename_i hd; rw [if_neg hd]; exact ztV (hq .normal) h
 | seq x y ihx ihy =>
  intro Q Q2 hq pf h
  refine ihx (fun e pf h => ?_) h
  cases e <;> try exact hq _ _ h
  obtain ⟨pf2, hw, h⟩ := h
  exact ⟨pf2, hw, ihy hq h⟩
 | cond b x y ihx ihy =>
  intro Q Q2 hq pf h
  obtain ⟨pf2, hw, h⟩ := h
  refine ⟨pf2, hw, ?_⟩
  unfold zv6 at h ⊢
  split at h
  ·split at h
   ·rename_i e; rw [if_pos e]; exact ihx hq h
   ·rename_i e; rw [if_neg e]; exact ihy hq h
  ·exact h
 | block id b ih =>
  intro Q Q2 hq pf h
  refine ih (fun e pf h => ?_) h
  cases e <;> try exact hq _ _ h
  simp only [zly] at h ⊢
  split at h
  ·rename_i e; rw [if_pos e]; exact hq _ _ h
  ·rename_i e; rw [if_neg e]; exact hq _ _ h
 | loop b ih =>
  intro Q Q2 hq pf h
  obtain ⟨n, hn⟩ := h
  refine ⟨n, ?_⟩
  induction n generalizing pf with
  | zero => exact hn
  | succ n ihn =>
   obtain ⟨pf2, hw, hn⟩ := hn
   refine ⟨pf2, hw, ih (fun e pf h => ?_) hn⟩
   cases e <;> first | exact ihn h | exact hq _ _ h
 | exit id => intro Q Q2 hq pf h; exact hq _ _ h
 | ret => intro Q Q2 hq pf h; exact hq _ _ h
 | _ => intros; rename_i h; exact absurd h (by simp [pwp])
end
section
variable {P : Program} {c : Cfg} {k : List PIt} {Q : Exit → PFr → Prop} {pf : PFr}
theorem zvM {pf' : PFr} (h : pf = pf') : pw P c k Q pf = pw P c k Q pf' := by rw [h]
@[go_sem ↓] theorem zLc : pw P c [] Q pf = Q .normal pf := rfl
@[go_sem ↓] theorem zK4 {i : Nat} : pw P c (.blk i :: k) Q pf = pw P c k Q pf := rfl
@[go_sem ↓] theorem zJW : pw P c (.code .skip :: k) Q pf = pw P c k Q pf := rfl
@[go_sem ↓] theorem zuJ {x y : Code} : pw P c (.code (.seq x y) :: k) Q pf = pw P c (.code x :: .wk y :: k) Q pf := by
 show pwp P c x (zwo (fun pf => ∃ pf2, PWeak pf2 pf ∧ pwp P c y (zbP P c k Q) pf2) (zbP P c k Q)) pf = pwp P c x (zbP P c (.wk y :: k) Q) pf
 congr 1
 funext e
 cases e <;> rfl
@[go_sem ↓] theorem pw_block {id : Nat} {b : Code} : pw P c (.code (.block id b) :: k) Q pf = pw P c (.code b :: .blk id :: k) Q pf := by
 show pwp P c b (zly id (zbP P c k Q)) pf = pwp P c b (zbP P c (.blk id :: k) Q) pf
 congr 1
 funext e
 cases e <;> try rfl
 funext pf
 simp only [zly, zbP]
 split <;> rfl
theorem zoQ : zbP P c k Q .ret = Q .ret := by
 induction k with
 | nil => rfl
 | cons it k ih => exact ih
@[go_sem ↓] theorem zKp : pw P c (.code .ret :: k) Q pf = Q .ret pf := by
 show zbP P c k Q .ret pf = _
 rw [zoQ]
def pwx (P : Program) (c : Cfg) (id : Nat) (k : List PIt) (Q : Exit → PFr → Prop) (pf : PFr) : Prop := zbP P c k Q (.exit id) pf
@[go_sem ↓] theorem zI1 {id : Nat} : pw P c (.code (.exit id) :: k) Q pf = pwx P c id k Q pf := rfl
@[go_sem ↓] theorem zIa {id : Nat} : pwx P c id [] Q pf = Q (.exit id) pf := rfl
@[go_sem ↓] theorem zGT {id : Nat} {x : Code} : pwx P c id (.code x :: k) Q pf = pwx P c id k Q pf := rfl
@[go_sem ↓] theorem zJ4 {id : Nat} {x : Code} : pwx P c id (.wk x :: k) Q pf = pwx P c id k Q pf := rfl
@[go_sem ↓] theorem zJb {id : Nat} {pre : List (Option Tmp)} {l : List Oper} : pwx P c id (.ops pre l :: k) Q pf = pwx P c id k Q pf := rfl
@[go_sem ↓] theorem zDI {id : Nat} {pre : List (Option Tmp)} {l : List (DE × Oper)} : pwx P c id (.dops pre l :: k) Q pf = pwx P c id k Q pf := rfl
@[go_sem ↓] theorem zIS {id i : Nat} : pwx P c id (.blk i :: k) Q pf = if id = i then pw P c k Q pf else pwx P c id k Q pf := by
 show (zbP P c (.blk i :: k) Q (.exit id)) pf = _
 simp only [zbP]
 split <;> rfl
def PFr.ofL : List (Nat × PF) → PFr
 | [], _ => jP
 | (s, x) :: l, t => if t = s then x else PFr.ofL l t
def zcj : List (Nat × PF) → PFr → Prop
 | [], _ => True
 | (s, x) :: l, pf => pf s = x ∧ zcj l pf
@[go_sem] theorem zB5 {pf : PFr} : zcj [] pf = True := rfl
@[go_sem] theorem zzG {s : Nat} {x : PF} {l : List (Nat × PF)} {pf : PFr} : zcj ((s, x) :: l) pf = (pf s = x ∧ zcj l pf) := rfl
theorem zqo : ∀ {l : List (Nat × PF)} {pf : PFr}, zcj l pf → ∀ t, PFr.ofL l t = pf t ∨ PFr.ofL l t = jP := by
 intro l
 induction l with
 | nil => intro pf _ t; exact .inr rfl
 | cons p l ih =>
  intro pf h t
  obtain ⟨s, x⟩ := p
  obtain ⟨h1, h2⟩ := h
  by_cases e : t = s
  ·subst e; left; simp [PFr.ofL, h1]
  ·rcases ih h2 t with e2 | e2
   ·left; simpa [PFr.ofL, e] using e2
   ·right; simpa [PFr.ofL, e] using e2
theorem zhS {l : List (Nat × PF)} {pf : PFr} (h : zcj l pf) : PWeak (PFr.ofL l) pf := .w (zqo h)
theorem zm2 : PWeak pf pf := .w fun _ => .inl rfl
theorem zas {x : Code} (h : pw P c (.code x :: k) Q pf) : pw P c (.wk x :: k) Q pf := ⟨pf, zm2, h⟩
theorem znI {x : Code} (l : List (Nat × PF)) (ha : zcj l pf) (h : pw P c (.code x :: k) Q (PFr.ofL l)) : pw P c (.wk x :: k) Q pf := ⟨PFr.ofL l, zhS ha, h⟩
theorem zmM {b : Operand} {x y : Code} {v : Bool} (hb : rdS pf b = some (.bool v)) (ht : v = true → pw P c (.code x :: k) Q pf) (he : v = false → pw P c (.code y :: k) Q pf) :
 pw P c (.code (.cond b x y) :: k) Q pf := by
 refine ⟨pf, zm2, ?_⟩
 rw [hb]
 cases v
 ·exact he rfl
 ·exact ht rfl
theorem zk0 {b : Operand} {x y : Code} (hb : rdS pf b = some (.bool true)) (ht : pw P c (.code x :: k) Q pf) : pw P c (.code (.cond b x y) :: k) Q pf := zmM hb (fun _ => ht) (fun h => by cases h)
theorem zo0 {b : Operand} {x y : Code} (hb : rdS pf b = some (.bool false)) (ht : pw P c (.code y :: k) Q pf) : pw P c (.code (.cond b x y) :: k) Q pf := zmM hb (fun h => by cases h) (fun _ => ht)
def zt3 {σ : Type} (shape : σ → List (Nat × PF)) (I : σ → Prop) (meas : σ → Nat) (n : Nat) (pf : PFr) : Prop := ∃ s, zcj (shape s) pf ∧ I s ∧ meas s < n
def zuE {σ : Type} (P : Program) (c : Cfg) (shape : σ → List (Nat × PF)) (I : σ → Prop) (meas : σ → Nat) (n : Nat) (k : List PIt) (Q : Exit → PFr → Prop) : Exit → PFr → Prop
 | .normal, pf => zt3 shape I meas n pf
 | e, pf => zbP P c k Q e pf
@[go_sem ↓] theorem zxO {σ : Type} {shape : σ → List (Nat × PF)} {I : σ → Prop} {meas : σ → Nat} {n : Nat} : zuE P c shape I meas n k Q .normal pf = zt3 shape I meas n pf := rfl
@[go_sem ↓] theorem zzQ {σ : Type} {shape : σ → List (Nat × PF)} {I : σ → Prop} {meas : σ → Nat} {n id : Nat} : zuE P c shape I meas n k Q (.exit id) pf = pwx P c id k Q pf := rfl
end
end Go.Pm
