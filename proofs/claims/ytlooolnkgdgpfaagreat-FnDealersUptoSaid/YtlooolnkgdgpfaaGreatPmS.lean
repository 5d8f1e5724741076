import Derived.Test.YtlooolnkgdgpfaaGreatPmR
namespace Go.Pm
open Go.Am
inductive PIt where
 | code (c : Code)
 | wk (c : Code)
 | ops (pre : List (Option Tmp)) (l : List Oper)
 | dops (pre : List (Option Tmp)) (l : List (DE × Oper))
 | blk (id : Nat)
def pkont (P : Program) (c : Cfg) : List PIt → (Exit → PFr → Prop) → Exit → PFr → Prop
 | [], Q, e => Q e
 | it :: k, Q, e => match e with
  | .normal => match it with
   | .code x => pwp P c x (pkont P c k Q)
   | .wk x => fun pf => ∃ pf2, PWeak pf2 pf ∧ pwp P c x (pkont P c k Q) pf2
   | .ops pre l => pops P c pre l (pkont P c k Q .normal)
   | .dops pre l => pdops P c pre l (pkont P c k Q .normal)
   | .blk _ => pkont P c k Q .normal
  | .exit id => match it with
   | .blk i => if id = i then pkont P c k Q .normal else pkont P c k Q (.exit id)
   | _ => pkont P c k Q (.exit id)
  | e => pkont P c k Q e
def pw (P : Program) (c : Cfg) (k : List PIt) (Q : Exit → PFr → Prop) (pf : PFr) : Prop := pkont P c k Q .normal pf
section
variable {P : Program} {c : Cfg} {K K2 : PFr → Prop}
theorem pfz_mono (hk : ∀ pf, K pf → K2 pf) {d : Nat} {x : Option (PF × PFr)} (h : pfz K d x) : pfz K2 d x := by
 cases x with
 | none => exact h
 | some x => exact hk _ h
theorem pput_mono (hk : ∀ pf, K pf → K2 pf) {d : Option Tmp} {y : PF} {pf : PFr} (h : pput c K d y pf) : pput c K2 d y pf := by
 cases d with
 | none => exact hk _ h
 | some d =>
  refine ⟨h.1, ?_⟩
  have h2 := h.2
  split at h2
  ·rename_i hh; rw [if_pos hh]; exact pfz_mono hk h2
  ·rename_i hh; rw [if_neg hh]; exact hk _ h2
theorem pad_mono (hk : ∀ pf, K pf → K2 pf) {d : Option Tmp} {pf : PFr} {x : Option AD} (h : pad c K d pf x) : pad c K2 d pf x := by
 cases x with
 | none => exact h
 | some x => exact pput_mono hk h
theorem pscal_mono (hk : ∀ pf, K pf → K2 pf) {o : Oper} {pf : PFr} (h : pscal P c o K pf) : pscal P c o K2 pf := by
 unfold pscal at h ⊢
 split at h
 ·split at h
  ·exact pput_mono hk h
  ·exact h
 ·exact h
theorem pret_mono (hk : ∀ pf, K pf → K2 pf) {d : Option Tmp} {r : PV} {x : Option PFr} (h : pret c d K r x) : pret c d K2 r x := by
 cases x with
 | none => exact h
 | some x => exact pput_mono hk h
theorem pcallM_mono (hk : ∀ pf, K pf → K2 pf) {f : Operand} {args : List Operand} {ts : List TypeId} {d : Option Tmp} {pf : PFr} {ms : List Md} (h : pcallM P c f args ts d K pf ms) : pcallM P c f args ts d K2 pf ms := by
 refine ⟨h.1, ?_⟩
 have h2 := h.2
 unfold pcallA at h2 ⊢
 split at h2
 ·unfold pcallF at h2 ⊢
  split at h2
  ·exact h2.mono fun r outs hh => ⟨hh.1, pret_mono hk hh.2⟩
  ·exact h2
 ·exact h2
theorem pnils_mono (hk : ∀ pf, K pf → K2 pf) {op : BinOp} {t : TypeId} {x : Operand} {d : Option Tmp} {pf : PFr} (h : pnils P c op t x d K pf) : pnils P c op t x d K2 pf := by
 unfold pnils at h ⊢
 split at h
 ·exact ⟨h.1, fun b hb => pput_mono hk (h.2 b hb)⟩
 ·exact h
theorem pbstr_mono (hk : ∀ pf, K pf → K2 pf) {s t : TypeId} {x : Operand} {d : Option Tmp} {pf : PFr} (h : pbstr P c s t x d K pf) : pbstr P c s t x d K2 pf := by
 unfold pbstr at h ⊢
 split at h
 ·exact ⟨h.1, pput_mono hk h.2⟩
 ·exact h
theorem pop_mono (hk : ∀ pf, K pf → K2 pf) {o : Oper} {pf : PFr} (h : pop P c o K pf) : pop P c o K2 pf := by
 unfold pop at h ⊢
 split at h
 ·unfold pload at h ⊢
  split at h
  ·exact pput_mono hk h
  ·split at h
   ·exact pput_mono hk h
   ·exact h
 ·unfold pstore at h ⊢
  split at h
  ·refine ⟨h.1, h.2.1, ?_⟩
   have h3 := h.2.2
   unfold pstoreA at h3 ⊢
   split at h3
   ·split at h3
    ·exact hk _ h3
    ·exact h3
   ·exact h3
  ·exact h
 ·exact pad_mono hk h
 ·unfold pindex at h ⊢
  split at h
  ·exact pput_mono hk h
  ·split at h
   ·exact pput_mono hk h
   ·exact h
 ·exact pad_mono hk h
 ·unfold palloc at h ⊢
  split at h
  ·refine ⟨h.1, ?_⟩
   have h3 := h.2
   split at h3
   ·rename_i hh; rw [if_pos hh]; exact hk _ h3
   ·rename_i hh; rw [if_neg hh]; exact hk _ h3
  ·exact h
 ·unfold pbox at h ⊢
  split at h
  ·refine ⟨h.1, h.2.1, h.2.2.1, ?_⟩
   have h3 := h.2.2.2
   split at h3
   ·rename_i hh; rw [if_pos hh]
    split at h3
    ·rename_i hh; rw [if_pos hh]; exact hk _ h3
    ·rename_i hh; rw [if_neg hh]; exact hk _ h3
   ·rename_i hh; rw [if_neg hh]; exact hk _ h3
  ·exact h
 ·unfold pbls at h ⊢
  split at h
  ·rename_i hm
   rw [if_pos hm]
   unfold pblsA at h ⊢
   split at h
   ·exact pput_mono hk h
   ·exact h
  rename_i hm
  rw [if_neg hm]
  split at h
  ·refine ⟨h.1, ?_⟩
   have h3 := h.2
   unfold pblsO at h3 ⊢
   split at h3
   ·exact ⟨h3.1, hk _ h3.2⟩
   ·exact h3
  ·exact h
 ·unfold pbuild at h ⊢
  split at h
  ·unfold pbldO at h ⊢
   split at h
   ·exact pput_mono hk h
   ·exact h
  ·exact h
 ·unfold ppick ppkO at h ⊢
  split at h
  ·split at h
   ·exact pput_mono hk h
   ·exact h
  ·split at h
   ·exact pput_mono hk h
   ·exact h
  ·exact h
 ·unfold pmake at h ⊢
  split at h
  ·unfold pmkO at h ⊢
   split at h
   ·exact ⟨h.1, pput_mono hk h.2⟩
   ·exact h
  ·exact h
 ·unfold pfunc at h ⊢
  split at h
  ·exact pput_mono hk h
  ·exact h
 ·unfold pmove at h ⊢
  split at h
  ·unfold pmoveF at h ⊢
   split at h
   ·refine ⟨h.1, ?_⟩
    have h3 := h.2
    split at h3
    ·rename_i hh; rw [if_pos hh]; exact pput_mono hk h3
    ·rename_i hh; rw [if_neg hh]; exact pput_mono hk h3
   ·exact ⟨h.1, pput_mono hk h.2⟩
   ·exact pput_mono hk h
   ·exact h
   ·exact h
   ·exact pput_mono hk h
  ·split at h
   ·exact pput_mono hk h
   ·exact h
 ·unfold passign at h ⊢
  split at h
  ·exact pput_mono hk h
  ·split at h
   ·exact pput_mono hk h
   ·exact h
 ·unfold pextract at h ⊢
  split at h
  ·refine ⟨h.1, ?_⟩
   have h2 := h.2
   unfold pex at h2 ⊢
   split at h2
   ·refine ⟨h2.1, ?_⟩
    have h3 := h2.2
    split at h3
    ·rename_i hh; rw [if_pos hh]; exact pput_mono hk h3
    ·rename_i hh; rw [if_neg hh]; exact pput_mono hk h3
   ·exact h2
  ·exact h
 ·split at h
  ·rename_i hh; rw [if_pos hh]; exact pscal_mono hk h
  ·rename_i hh; rw [if_neg hh]
   unfold pslice at h ⊢
   split at h
   ·unfold pslO at h ⊢
    split at h
    ·split at h
     ·exact pput_mono hk h
     ·exact h
    ·split at h
     ·exact ⟨h.1, h.2.1, pput_mono hk h.2.2⟩
     ·exact h
    ·exact h
   ·exact h
 ·unfold plenO at h ⊢
  split at h
  ·split at h
   ·rename_i hh; rw [if_pos hh]; exact pscal_mono hk h
   ·rename_i hh; rw [if_neg hh]
    unfold plen at h ⊢
    split at h
    ·split at h
     ·exact fun hl => pput_mono hk (h hl)
     ·exact h
    ·exact h
  ·exact h
 ·unfold pappA at h ⊢
  split at h
  ·split at h
   ·rename_i htt
    rw [if_pos htt]
    unfold papp at h ⊢
    split at h
    ·unfold pappB at h ⊢
     split at h
     ·split at h
      ·unfold pappO at h ⊢
       split at h
       ·exact ⟨h.1, h.2.1, pput_mono hk h.2.2⟩
       ·exact h
      ·exact h
     ·exact h
    ·exact h
   ·rename_i htt
    rw [if_neg htt]
    unfold pappZ at h ⊢
    split at h
    ·refine ⟨h.1, ?_⟩
     have h := h.2
     unfold pappY at h ⊢
     split at h
     ·split at h
      ·exact ⟨h.1, pput_mono hk h.2⟩
      ·exact h
     ·exact h
    ·exact h
  ·exact h
 ·rcases h with ⟨ms, h⟩ | ⟨g, x, t, n, z, a1, a2, a3, a4, a5, a6, h⟩
  ·exact .inl ⟨ms, pcallM_mono hk h⟩
  ·exact .inr ⟨g, x, t, n, z, a1, a2, a3, a4, a5, a6, pput_mono hk h⟩
 all_goals first
  | exact pscal_mono hk h
  | (split at h
     ·rename_i hh; rw [if_pos hh]; exact ⟨h.1, pnils_mono hk h.2⟩
     ·rename_i hh; rw [if_neg hh]; exact pscal_mono hk h)
  | (split at h
     ·rename_i hh; rw [if_pos hh]; exact ⟨h.1, pbstr_mono hk h.2⟩
     ·rename_i hh; rw [if_neg hh]; exact pscal_mono hk h)
  | exact h
theorem pskip_mono (hk : ∀ pf, K pf → K2 pf) {d : Option Tmp} {pf : PFr} (h : pskip c d K pf) : pskip c d K2 pf := by
 cases d with
 | none => exact hk _ h
 | some d => exact ⟨h.1, hk _ h.2⟩
theorem pgo_mono (hk : ∀ pf, K pf → K2 pf) {b : Bool} {d : Option Tmp} {r r2 : Prop} (hr : r → r2) {pf : PFr} {y : Option (Option Bool)} (h : pgo c b d r K pf y) : pgo c b d r2 K2 pf y := by
 unfold pgo at h ⊢
 split at h
 ·split at h
  ·rename_i hh; rw [if_pos hh]; exact hr h
  ·rename_i hh; rw [if_neg hh]; exact pskip_mono hk h
 ·exact h
theorem pops_mono {pre : List (Option Tmp)} : ∀ {l : List Oper} {K K2 : PFr → Prop} (_ : ∀ pf, K pf → K2 pf) {pf : PFr}, pops P c pre l K pf → pops P c pre l K2 pf := by
 intro l
 induction l with
 | nil => intro K K2 hk pf h; exact hk _ h
 | cons o l ih =>
  intro K K2 hk pf h
  simp only [pops, pgop] at h ⊢
  split at h
  ·exact pop_mono (fun _ hh => ih hk hh) h
  ·exact pgo_mono (fun _ hh => ih hk hh) (pop_mono fun _ hh => ih hk hh) h
theorem popD_mono (hk : ∀ pf, K pf → K2 pf) {ext : Bool} {o : Oper} {pf : PFr} (h : popD P c ext o K pf) : popD P c ext o K2 pf := by
 unfold popD at h ⊢
 split at h
 ·split at h
  ·rename_i hx; rw [if_pos hx]; exact pcallM_mono hk h
  ·rename_i hx; rw [if_neg hx]; exact pop_mono hk h
 ·exact ⟨h.1, pop_mono hk h.2⟩
theorem pdops_mono {pre : List (Option Tmp)} : ∀ {l : List (DE × Oper)} {K K2 : PFr → Prop} (_ : ∀ pf, K pf → K2 pf) {pf : PFr}, pdops P c pre l K pf → pdops P c pre l K2 pf := by
 intro l
 induction l with
 | nil => intro K K2 hk pf h; exact hk _ h
 | cons x l ih =>
  obtain ⟨e, o⟩ := x
  intro K K2 hk pf h
  refine ⟨h.1, ?_⟩
  have h2 := h.2
  unfold pgopD at h2 ⊢
  split at h2
  ·exact popD_mono (fun _ hh => ih hk hh) h2
  ·exact pgo_mono (fun _ hh => ih hk hh) (popD_mono fun _ hh => ih hk hh) h2
theorem pwp_mono : ∀ (x : Code) {Q Q2 : Exit → PFr → Prop}, (∀ e pf, Q e pf → Q2 e pf) → ∀ {pf}, pwp P c x Q pf → pwp P c x Q2 pf := by
 intro x
 induction x with
 | skip => intro Q Q2 hq pf h; exact hq _ _ h
 | region id ops draw =>
  intro Q Q2 hq pf h
  simp only [pwp] at h ⊢
  split at h
  ·rename_i hd
   rw [if_pos hd]
   obtain ⟨a, n, h⟩ := h
   exact ⟨a, n, adrawX_mono (fun _ => pdops_mono (hq .normal)) h⟩
  ·rename_i hd; rw [if_neg hd]; exact pops_mono (hq .normal) h
 | seq x y ihx ihy =>
  intro Q Q2 hq pf h
  refine ihx (fun e pf h => ?_) h
  cases e <;> try exact hq _ _ h
  obtain ⟨pf2, hw, h⟩ := h
  exact ⟨pf2, hw, ihy hq h⟩
 | cond b x y ihx ihy =>
  intro Q Q2 hq pf h
  obtain ⟨pf2, hw, h⟩ := h
  refine ⟨pf2, hw, ?_⟩
  unfold pcnd at h ⊢
  split at h
  ·split at h
   ·rename_i e; rw [if_pos e]; exact ihx hq h
   ·rename_i e; rw [if_neg e]; exact ihy hq h
  ·exact h
 | block id b ih =>
  intro Q Q2 hq pf h
  refine ih (fun e pf h => ?_) h
  cases e <;> try exact hq _ _ h
  simp only [pblock] at h ⊢
  split at h
  ·rename_i e; rw [if_pos e]; exact hq _ _ h
  ·rename_i e; rw [if_neg e]; exact hq _ _ h
 | loop b ih =>
  intro Q Q2 hq pf h
  obtain ⟨n, hn⟩ := h
  refine ⟨n, ?_⟩
  induction n generalizing pf with
  | zero => exact hn
  | succ n ihn =>
   obtain ⟨pf2, hw, hn⟩ := hn
   refine ⟨pf2, hw, ih (fun e pf h => ?_) hn⟩
   cases e <;> first | exact ihn h | exact hq _ _ h
 | exit id => intro Q Q2 hq pf h; exact hq _ _ h
 | ret => intro Q Q2 hq pf h; exact hq _ _ h
 | _ => intros; rename_i h; exact absurd h (by simp [pwp])
end
section
variable {P : Program} {c : Cfg} {k : List PIt} {Q : Exit → PFr → Prop} {pf : PFr}
theorem pw_congr {pf' : PFr} (h : pf = pf') : pw P c k Q pf = pw P c k Q pf' := by rw [h]
@[go_sem ↓] theorem pw_nil : pw P c [] Q pf = Q .normal pf := rfl
@[go_sem ↓] theorem pw_blk {i : Nat} : pw P c (.blk i :: k) Q pf = pw P c k Q pf := rfl
@[go_sem ↓] theorem pw_skip : pw P c (.code .skip :: k) Q pf = pw P c k Q pf := rfl
@[go_sem ↓] theorem pw_seq {x y : Code} : pw P c (.code (.seq x y) :: k) Q pf = pw P c (.code x :: .wk y :: k) Q pf := by
 show pwp P c x (pthen (fun pf => ∃ pf2, PWeak pf2 pf ∧ pwp P c y (pkont P c k Q) pf2) (pkont P c k Q)) pf = pwp P c x (pkont P c (.wk y :: k) Q) pf
 congr 1
 funext e
 cases e <;> rfl
@[go_sem ↓] theorem pw_block {id : Nat} {b : Code} : pw P c (.code (.block id b) :: k) Q pf = pw P c (.code b :: .blk id :: k) Q pf := by
 show pwp P c b (pblock id (pkont P c k Q)) pf = pwp P c b (pkont P c (.blk id :: k) Q) pf
 congr 1
 funext e
 cases e <;> try rfl
 funext pf
 simp only [pblock, pkont]
 split <;> rfl
theorem pkont_ret : pkont P c k Q .ret = Q .ret := by
 induction k with
 | nil => rfl
 | cons it k ih => exact ih
@[go_sem ↓] theorem pw_ret : pw P c (.code .ret :: k) Q pf = Q .ret pf := by
 show pkont P c k Q .ret pf = _
 rw [pkont_ret]
def pwx (P : Program) (c : Cfg) (id : Nat) (k : List PIt) (Q : Exit → PFr → Prop) (pf : PFr) : Prop := pkont P c k Q (.exit id) pf
@[go_sem ↓] theorem pw_exit {id : Nat} : pw P c (.code (.exit id) :: k) Q pf = pwx P c id k Q pf := rfl
@[go_sem ↓] theorem pwx_nil {id : Nat} : pwx P c id [] Q pf = Q (.exit id) pf := rfl
@[go_sem ↓] theorem pwx_code {id : Nat} {x : Code} : pwx P c id (.code x :: k) Q pf = pwx P c id k Q pf := rfl
@[go_sem ↓] theorem pwx_wk {id : Nat} {x : Code} : pwx P c id (.wk x :: k) Q pf = pwx P c id k Q pf := rfl
@[go_sem ↓] theorem pwx_ops {id : Nat} {pre : List (Option Tmp)} {l : List Oper} : pwx P c id (.ops pre l :: k) Q pf = pwx P c id k Q pf := rfl
@[go_sem ↓] theorem pwx_dops {id : Nat} {pre : List (Option Tmp)} {l : List (DE × Oper)} : pwx P c id (.dops pre l :: k) Q pf = pwx P c id k Q pf := rfl
@[go_sem ↓] theorem pwx_blk {id i : Nat} : pwx P c id (.blk i :: k) Q pf = if id = i then pw P c k Q pf else pwx P c id k Q pf := by
 show (pkont P c (.blk i :: k) Q (.exit id)) pf = _
 simp only [pkont]
 split <;> rfl
def PFr.ofL : List (Nat × PF) → PFr
 | [], _ => jP
 | (s, x) :: l, t => if t = s then x else PFr.ofL l t
def PAgree : List (Nat × PF) → PFr → Prop
 | [], _ => True
 | (s, x) :: l, pf => pf s = x ∧ PAgree l pf
@[go_sem] theorem pagree_nil {pf : PFr} : PAgree [] pf = True := rfl
@[go_sem] theorem pagree_cons {s : Nat} {x : PF} {l : List (Nat × PF)} {pf : PFr} : PAgree ((s, x) :: l) pf = (pf s = x ∧ PAgree l pf) := rfl
theorem pagree_weak0 : ∀ {l : List (Nat × PF)} {pf : PFr}, PAgree l pf → ∀ t, PFr.ofL l t = pf t ∨ PFr.ofL l t = jP := by
 intro l
 induction l with
 | nil => intro pf _ t; exact .inr rfl
 | cons p l ih =>
  intro pf h t
  obtain ⟨s, x⟩ := p
  obtain ⟨h1, h2⟩ := h
  by_cases e : t = s
  ·subst e; left; simp [PFr.ofL, h1]
  ·rcases ih h2 t with e2 | e2
   ·left; simpa [PFr.ofL, e] using e2
   ·right; simpa [PFr.ofL, e] using e2
theorem pagree_weak {l : List (Nat × PF)} {pf : PFr} (h : PAgree l pf) : PWeak (PFr.ofL l) pf := .w (pagree_weak0 h)
theorem pweak_refl : PWeak pf pf := .w fun _ => .inl rfl
theorem pw_wk {x : Code} (h : pw P c (.code x :: k) Q pf) : pw P c (.wk x :: k) Q pf := ⟨pf, pweak_refl, h⟩
theorem pw_wkL {x : Code} (l : List (Nat × PF)) (ha : PAgree l pf) (h : pw P c (.code x :: k) Q (PFr.ofL l)) : pw P c (.wk x :: k) Q pf := ⟨PFr.ofL l, pagree_weak ha, h⟩
theorem pw_cond' {b : Operand} {x y : Code} {v : Bool} (hb : rdS pf b = some (.bool v)) (ht : v = true → pw P c (.code x :: k) Q pf) (he : v = false → pw P c (.code y :: k) Q pf) :
 pw P c (.code (.cond b x y) :: k) Q pf := by
 refine ⟨pf, pweak_refl, ?_⟩
 rw [hb]
 cases v
 ·exact he rfl
 ·exact ht rfl
theorem pw_cond_t {b : Operand} {x y : Code} (hb : rdS pf b = some (.bool true)) (ht : pw P c (.code x :: k) Q pf) : pw P c (.code (.cond b x y) :: k) Q pf := pw_cond' hb (fun _ => ht) (fun h => by cases h)
theorem pw_cond_f {b : Operand} {x y : Code} (hb : rdS pf b = some (.bool false)) (ht : pw P c (.code y :: k) Q pf) : pw P c (.code (.cond b x y) :: k) Q pf := pw_cond' hb (fun h => by cases h) (fun _ => ht)
def PRound {σ : Type} (shape : σ → List (Nat × PF)) (I : σ → Prop) (meas : σ → Nat) (n : Nat) (pf : PFr) : Prop := ∃ s, PAgree (shape s) pf ∧ I s ∧ meas s < n
def plpost {σ : Type} (P : Program) (c : Cfg) (shape : σ → List (Nat × PF)) (I : σ → Prop) (meas : σ → Nat) (n : Nat) (k : List PIt) (Q : Exit → PFr → Prop) : Exit → PFr → Prop
 | .normal, pf => PRound shape I meas n pf
 | e, pf => pkont P c k Q e pf
@[go_sem ↓] theorem plpost_normal {σ : Type} {shape : σ → List (Nat × PF)} {I : σ → Prop} {meas : σ → Nat} {n : Nat} : plpost P c shape I meas n k Q .normal pf = PRound shape I meas n pf := rfl
@[go_sem ↓] theorem plpost_exit {σ : Type} {shape : σ → List (Nat × PF)} {I : σ → Prop} {meas : σ → Nat} {n id : Nat} : plpost P c shape I meas n k Q (.exit id) pf = pwx P c id k Q pf := rfl
@[go_sem ↓] theorem plpost_ret {σ : Type} {shape : σ → List (Nat × PF)} {I : σ → Prop} {meas : σ → Nat} {n : Nat} : plpost P c shape I meas n k Q .ret pf = Q .ret pf := by
 show pkont P c k Q .ret pf = _
 rw [pkont_ret]
end
end Go.Pm
