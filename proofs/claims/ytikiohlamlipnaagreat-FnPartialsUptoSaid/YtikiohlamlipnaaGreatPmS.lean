import Derived.Test.YtikiohlamlipnaaGreatPmR
namespace Go.Pm
open Go.Am
inductive PIt where
 | code (c : Code)
 | wk (c : Code)
 | ops (pre : List (Option Tmp)) (l : List Oper)
 | dops (pre : List (Option Tmp)) (l : List (DE × Oper))
 | blk (id : Nat)
def zbJ (P : Program) (c : Cfg) : List PIt → (Exit → PFr → Prop) → Exit → PFr → Prop
 | [], Q, e => Q e
 | it :: k, Q, e => match e with
  | .normal => match it with
   | .code x => pwp P c x (zbJ P c k Q)
   | .wk x => fun pf => ∃ pf2, PWeak pf2 pf ∧ pwp P c x (zbJ P c k Q) pf2
   | .ops pre l => zlJ P c pre l (zbJ P c k Q .normal)
   | .dops pre l => zkP P c pre l (zbJ P c k Q .normal)
   | .blk _ => zbJ P c k Q .normal
  | .exit id => match it with
   | .blk i => if id = i then zbJ P c k Q .normal else zbJ P c k Q (.exit id)
   | _ => zbJ P c k Q (.exit id)
  | e => zbJ P c k Q e
def pw (P : Program) (c : Cfg) (k : List PIt) (Q : Exit → PFr → Prop) (pf : PFr) : Prop := zbJ P c k Q .normal pf
section
variable {P : Program} {c : Cfg} {K K2 : PFr → Prop}
theorem zuZ (hk : ∀ pf, K pf → K2 pf) {d : Nat} {x : Option (PF × PFr)} (h : pfz K d x) : pfz K2 d x := by
 cases x with
 | none => exact h
 | some x => exact hk _ h
theorem zaJ (hk : ∀ pf, K pf → K2 pf) {d : Option Tmp} {y : PF} {pf : PFr} (h : zbw c K d y pf) : zbw c K2 d y pf := by
 cases d with
 | none => exact hk _ h
 | some d =>
  refine ⟨h.1, ?_⟩
  have h2 := h.2
  split at h2
  ·rename_i hh; rw [if_pos hh]; exact zuZ hk h2
  ·rename_i hh; rw [if_neg hh]; exact hk _ h2
theorem zpo (hk : ∀ pf, K pf → K2 pf) {d : Option Tmp} {pf : PFr} {x : Option AD} (h : pad c K d pf x) : pad c K2 d pf x := by
 cases x with
 | none => exact h
 | some x => exact zaJ hk h
theorem zgE (hk : ∀ pf, K pf → K2 pf) {o : Oper} {pf : PFr} (h : zdW P c o K pf) : zdW P c o K2 pf := by
 unfold zdW at h ⊢
 split at h
 ·split at h
  ·exact zaJ hk h
  ·exact h
 ·exact h
theorem zsN (hk : ∀ pf, K pf → K2 pf) {d : Option Tmp} {r : PV} {x : Option PFr} (h : zrX c d K r x) : zrX c d K2 r x := by
 cases x with
 | none => exact h
 | some x => exact zaJ hk h
theorem zln (hk : ∀ pf, K pf → K2 pf) {f : Operand} {args : List Operand} {ts : List TypeId} {d : Option Tmp} {pf : PFr} {ms : List Md} (h : zkr P c f args ts d K pf ms) : zkr P c f args ts d K2 pf ms := by
 refine ⟨h.1, ?_⟩
 have h2 := h.2
 unfold zpC at h2 ⊢
 split at h2
 ·unfold zkd at h2 ⊢
  split at h2
  ·exact h2.mono fun r outs hh => ⟨hh.1, zsN hk hh.2⟩
  ·exact h2
 ·exact h2
theorem zrY (hk : ∀ pf, K pf → K2 pf) {op : BinOp} {t : TypeId} {x : Operand} {d : Option Tmp} {pf : PFr} (h : zjx P c op t x d K pf) : zjx P c op t x d K2 pf := by
 unfold zjx at h ⊢
 split at h
 ·exact ⟨h.1, fun b hb => zaJ hk (h.2 b hb)⟩
 ·exact h
theorem zro (hk : ∀ pf, K pf → K2 pf) {s t : TypeId} {x : Operand} {d : Option Tmp} {pf : PFr} (h : zjL P c s t x d K pf) : zjL P c s t x d K2 pf := by
 unfold zjL at h ⊢
 split at h
 ·exact ⟨h.1, zaJ hk h.2⟩
 ·exact h
theorem zjR (hk : ∀ pf, K pf → K2 pf) {o : Oper} {pf : PFr} (h : pop P c o K pf) : pop P c o K2 pf := by
 unfold pop at h ⊢
 split at h
 ·unfold zkS at h ⊢
  split at h
  ·exact zaJ hk h
  ·split at h
   ·exact zaJ hk h
   ·exact h
 ·unfold zjc at h ⊢
  split at h
  ·refine ⟨h.1, h.2.1, ?_⟩
   have h3 := h.2.2
   unfold zhY at h3 ⊢
   split at h3
   ·split at h3
    ·exact hk _ h3
    ·exact h3
   ·exact h3
  ·exact h
 ·exact zpo hk h
 ·unfold zjp at h ⊢
  split at h
  ·exact zaJ hk h
  ·split at h
   ·exact zaJ hk h
   ·exact h
 ·exact zpo hk h
 ·unfold zjd at h ⊢
  split at h
  ·refine ⟨h.1, ?_⟩
   have h3 := h.2
   split at h3
   ·rename_i hh; rw [if_pos hh]; exact hk _ h3
   ·rename_i hh; rw [if_neg hh]; exact hk _ h3
  ·exact h
 ·unfold zm4 at h ⊢
  split at h
  ·refine ⟨h.1, h.2.1, h.2.2.1, ?_⟩
   have h3 := h.2.2.2
   split at h3
   ·rename_i hh; rw [if_pos hh]
    split at h3
    ·rename_i hh; rw [if_pos hh]; exact hk _ h3
    ·rename_i hh; rw [if_neg hh]; exact hk _ h3
   ·rename_i hh; rw [if_neg hh]; exact hk _ h3
  ·exact h
 ·unfold zmT at h ⊢
  split at h
  ·rename_i hm
   rw [if_pos hm]
   unfold zmJ at h ⊢
   split at h
   ·exact zaJ hk h
   ·exact h
  rename_i hm
  rw [if_neg hm]
  split at h
  ·refine ⟨h.1, ?_⟩
   have h3 := h.2
   unfold zop at h3 ⊢
   split at h3
   ·exact ⟨h3.1, hk _ h3.2⟩
   ·exact h3
  ·exact h
 ·unfold zjb at h ⊢
  split at h
  ·unfold zrK at h ⊢
   split at h
   ·exact zaJ hk h
   ·exact h
  ·exact h
 ·unfold zk6 zss at h ⊢
  split at h
  ·split at h
   ·exact zaJ hk h
   ·exact h
  ·split at h
   ·exact zaJ hk h
   ·exact h
  ·exact h
 ·unfold zkQ at h ⊢
  split at h
  ·unfold zrU at h ⊢
   split at h
   ·exact ⟨h.1, zaJ hk h.2⟩
   ·exact h
  ·exact h
 ·unfold zkZ at h ⊢
  split at h
  ·exact zaJ hk h
  ·exact h
 ·unfold zhK at h ⊢
  split at h
  ·unfold zf3 at h ⊢
   split at h
   ·refine ⟨h.1, ?_⟩
    have h3 := h.2
    split at h3
    ·rename_i hh; rw [if_pos hh]; exact zaJ hk h3
    ·rename_i hh; rw [if_neg hh]; exact zaJ hk h3
   ·exact ⟨h.1, zaJ hk h.2⟩
   ·exact zaJ hk h
   ·exact h
   ·exact h
   ·exact zaJ hk h
  ·split at h
   ·exact zaJ hk h
   ·exact h
 ·unfold zh0 at h ⊢
  split at h
  ·exact zaJ hk h
  ·split at h
   ·exact zaJ hk h
   ·exact h
 ·unfold zg6 at h ⊢
  split at h
  ·refine ⟨h.1, ?_⟩
   have h2 := h.2
   unfold pex at h2 ⊢
   split at h2
   ·refine ⟨h2.1, ?_⟩
    have h3 := h2.2
    split at h3
    ·rename_i hh; rw [if_pos hh]; exact zaJ hk h3
    ·rename_i hh; rw [if_neg hh]; exact zaJ hk h3
   ·exact h2
  ·exact h
 ·split at h
  ·rename_i hh; rw [if_pos hh]; exact zgE hk h
  ·rename_i hh; rw [if_neg hh]
   unfold zji at h ⊢
   split at h
   ·unfold zm9 at h ⊢
    split at h
    ·split at h
     ·exact zaJ hk h
     ·exact h
    ·split at h
     ·exact ⟨h.1, h.2.1, zaJ hk h.2.2⟩
     ·exact h
    ·exact h
   ·exact h
 ·unfold zrD at h ⊢
  split at h
  ·split at h
   ·rename_i hh; rw [if_pos hh]; exact zgE hk h
   ·rename_i hh; rw [if_neg hh]
    unfold zlV at h ⊢
    split at h
    ·split at h
     ·exact fun hl => zaJ hk (h hl)
     ·exact h
    ·exact h
  ·exact h
 ·unfold zry at h ⊢
  split at h
  ·split at h
   ·rename_i htt
    rw [if_pos htt]
    unfold znk at h ⊢
    split at h
    ·unfold zoj at h ⊢
     split at h
     ·split at h
      ·unfold zou at h ⊢
       split at h
       ·exact ⟨h.1, h.2.1, zaJ hk h.2.2⟩
       ·exact h
      ·exact h
     ·exact h
    ·exact h
   ·rename_i htt
    rw [if_neg htt]
    unfold zmG at h ⊢
    split at h
    ·refine ⟨h.1, ?_⟩
     have h := h.2
     unfold zsj at h ⊢
     split at h
     ·split at h
      ·exact ⟨h.1, zaJ hk h.2⟩
      ·exact h
     ·exact h
    ·exact h
  ·exact h
 ·rcases h with ⟨ms, h⟩ | ⟨g, x, t, n, z, a1, a2, a3, a4, a5, a6, h⟩
  ·exact .inl ⟨ms, zln hk h⟩
  ·exact .inr ⟨g, x, t, n, z, a1, a2, a3, a4, a5, a6, zaJ hk h⟩
 all_goals first
  | exact zgE hk h
  | (split at h
     ·rename_i hh; rw [if_pos hh]; exact ⟨h.1, zrY hk h.2⟩
     ·rename_i hh; rw [if_neg hh]; exact zgE hk h)
  | (split at h
     ·rename_i hh; rw [if_pos hh]; exact ⟨h.1, zro hk h.2⟩
     ·rename_i hh; rw [if_neg hh]; exact zgE hk h)
  | exact h
theorem zrv (hk : ∀ pf, K pf → K2 pf) {d : Option Tmp} {pf : PFr} (h : ziO c d K pf) : ziO c d K2 pf := by
 cases d with
 | none => exact hk _ h
 | some d => exact ⟨h.1, hk _ h.2⟩
theorem zpI (hk : ∀ pf, K pf → K2 pf) {b : Bool} {d : Option Tmp} {r r2 : Prop} (hr : r → r2) {pf : PFr} {y : Option (Option Bool)} (h : pgo c b d r K pf y) : pgo c b d r2 K2 pf y := by
 unfold pgo at h ⊢
 split at h
 ·split at h
  ·rename_i hh; rw [if_pos hh]; exact hr h
  ·rename_i hh; rw [if_neg hh]; exact zrv hk h
 ·exact h
theorem ztM {pre : List (Option Tmp)} : ∀ {l : List Oper} {K K2 : PFr → Prop} (_ : ∀ pf, K pf → K2 pf) {pf : PFr}, zlJ P c pre l K pf → zlJ P c pre l K2 pf := by
 intro l
 induction l with
 | nil => intro K K2 hk pf h; exact hk _ h
 | cons o l ih =>
  intro K K2 hk pf h
  simp only [zlJ, zkm] at h ⊢
  split at h
  ·exact zjR (fun _ hh => ih hk hh) h
  ·exact zpI (fun _ hh => ih hk hh) (zjR fun _ hh => ih hk hh) h
theorem znH (hk : ∀ pf, K pf → K2 pf) {ext : Bool} {o : Oper} {pf : PFr} (h : zhG P c ext o K pf) : zhG P c ext o K2 pf := by
 unfold zhG at h ⊢
 split at h
 ·split at h
  ·rename_i hx; rw [if_pos hx]; exact zln hk h
  ·rename_i hx; rw [if_neg hx]; exact zjR hk h
 ·exact ⟨h.1, zjR hk h.2⟩
theorem zrm {pre : List (Option Tmp)} : ∀ {l : List (DE × Oper)} {K K2 : PFr → Prop} (_ : ∀ pf, K pf → K2 pf) {pf : PFr}, zkP P c pre l K pf → zkP P c pre l K2 pf := by
 intro l
 induction l with
 | nil => intro K K2 hk pf h; exact hk _ h
 | cons x l ih =>
  obtain ⟨e, o⟩ := x
  intro K K2 hk pf h
  refine ⟨h.1, ?_⟩
  have h2 := h.2
  unfold zmy at h2 ⊢
  split at h2
  ·exact znH (fun _ hh => ih hk hh) h2
  ·exact zpI (fun _ hh => ih hk hh) (znH fun _ hh => ih hk hh) h2
theorem zlu : ∀ (x : Code) {Q Q2 : Exit → PFr → Prop}, (∀ e pf, Q e pf → Q2 e pf) → ∀ {pf}, pwp P c x Q pf → pwp P c x Q2 pf := by
 intro x
 induction x with
 | skip => intro Q Q2 hq pf h; exact hq _ _ h
 | region id ops draw =>
  intro Q Q2 hq pf h
  simp only [pwp] at h ⊢
  split at h
  ·rename_i hd
   rw [if_pos hd]
   obtain ⟨a, n, h⟩ := h
   exact ⟨a, n, zi3 (fun _ => zrm (hq .normal)) h⟩
  ·rename_i hd; rw [if_neg hd]; exact ztM (hq .normal) h
 | seq x y ihx ihy =>
  intro Q Q2 hq pf h
  refine ihx (fun e pf h => ?_) h
  cases e <;> try exact hq _ _ h
  obtain ⟨pf2, hw, h⟩ := h
  exact ⟨pf2, hw, ihy hq h⟩
 | cond b x y ihx ihy =>
  intro Q Q2 hq pf h
  obtain ⟨pf2, hw, h⟩ := h
  refine ⟨pf2, hw, ?_⟩
  unfold zuu at h ⊢
  split at h
  ·split at h
   ·rename_i e; rw [if_pos e]; exact ihx hq h
   ·rename_i e; rw [if_neg e]; exact ihy hq h
  ·exact h
 | block id b ih =>
  intro Q Q2 hq pf h
  refine ih (fun e pf h => ?_) h
  cases e <;> try exact hq _ _ h
  simp only [zkH] at h ⊢
  split at h
  ·rename_i e; rw [if_pos e]; exact hq _ _ h
  ·rename_i e; rw [if_neg e]; exact hq _ _ h
 | loop b ih =>
  intro Q Q2 hq pf h
  obtain ⟨n, hn⟩ := h
  refine ⟨n, ?_⟩
  induction n generalizing pf with
  | zero => exact hn
  | succ n ihn =>
   obtain ⟨pf2, hw, hn⟩ := hn
   refine ⟨pf2, hw, ih (fun e pf h => ?_) hn⟩
   cases e <;> first | exact ihn h | exact hq _ _ h
 | exit id => intro Q Q2 hq pf h; exact hq _ _ h
 | ret => intro Q Q2 hq pf h; exact hq _ _ h
 | _ => intros; rename_i h; exact absurd h (by simp [pwp])
end
section
variable {P : Program} {c : Cfg} {k : List PIt} {Q : Exit → PFr → Prop} {pf : PFr}
theorem zu3 {pf' : PFr} (h : pf = pf') : pw P c k Q pf = pw P c k Q pf' := by rw [h]
@[go_sem ↓] theorem zIG : pw P c [] Q pf = Q .normal pf := rfl
@[go_sem ↓] theorem zJs {i : Nat} : pw P c (.blk i :: k) Q pf = pw P c k Q pf := rfl
@[go_sem ↓] theorem zGJ : pw P c (.code .skip :: k) Q pf = pw P c k Q pf := rfl
@[go_sem ↓] theorem zuh {x y : Code} : pw P c (.code (.seq x y) :: k) Q pf = pw P c (.code x :: .wk y :: k) Q pf := by
 show pwp P c x (zvO (fun pf => ∃ pf2, PWeak pf2 pf ∧ pwp P c y (zbJ P c k Q) pf2) (zbJ P c k Q)) pf = pwp P c x (zbJ P c (.wk y :: k) Q) pf
 congr 1
 funext e
 cases e <;> rfl
@[go_sem ↓] theorem pw_block {id : Nat} {b : Code} : pw P c (.code (.block id b) :: k) Q pf = pw P c (.code b :: .blk id :: k) Q pf := by
 show pwp P c b (zkH id (zbJ P c k Q)) pf = pwp P c b (zbJ P c (.blk id :: k) Q) pf
 congr 1
 funext e
 cases e <;> try rfl
 funext pf
 simp only [zkH, zbJ]
 split <;> rfl
theorem znW : zbJ P c k Q .ret = Q .ret := by
 induction k with
 | nil => rfl
 | cons it k ih => exact ih
@[go_sem ↓] theorem zIt : pw P c (.code .ret :: k) Q pf = Q .ret pf := by
 show zbJ P c k Q .ret pf = _
 rw [znW]
def pwx (P : Program) (c : Cfg) (id : Nat) (k : List PIt) (Q : Exit → PFr → Prop) (pf : PFr) : Prop := zbJ P c k Q (.exit id) pf
@[go_sem ↓] theorem zGf {id : Nat} : pw P c (.code (.exit id) :: k) Q pf = pwx P c id k Q pf := rfl
@[go_sem ↓] theorem zGI {id : Nat} : pwx P c id [] Q pf = Q (.exit id) pf := rfl
@[go_sem ↓] theorem zCY {id : Nat} {x : Code} : pwx P c id (.code x :: k) Q pf = pwx P c id k Q pf := rfl
@[go_sem ↓] theorem zJU {id : Nat} {x : Code} : pwx P c id (.wk x :: k) Q pf = pwx P c id k Q pf := rfl
@[go_sem ↓] theorem zGd {id : Nat} {pre : List (Option Tmp)} {l : List Oper} : pwx P c id (.ops pre l :: k) Q pf = pwx P c id k Q pf := rfl
@[go_sem ↓] theorem zEy {id : Nat} {pre : List (Option Tmp)} {l : List (DE × Oper)} : pwx P c id (.dops pre l :: k) Q pf = pwx P c id k Q pf := rfl
@[go_sem ↓] theorem zGT {id i : Nat} : pwx P c id (.blk i :: k) Q pf = if id = i then pw P c k Q pf else pwx P c id k Q pf := by
 show (zbJ P c (.blk i :: k) Q (.exit id)) pf = _
 simp only [zbJ]
 split <;> rfl
def PFr.ofL : List (Nat × PF) → PFr
 | [], _ => jP
 | (s, x) :: l, t => if t = s then x else PFr.ofL l t
def zcf : List (Nat × PF) → PFr → Prop
 | [], _ => True
 | (s, x) :: l, pf => pf s = x ∧ zcf l pf
@[go_sem] theorem zAh {pf : PFr} : zcf [] pf = True := rfl
@[go_sem] theorem zzd {s : Nat} {x : PF} {l : List (Nat × PF)} {pf : PFr} : zcf ((s, x) :: l) pf = (pf s = x ∧ zcf l pf) := rfl
theorem zoA : ∀ {l : List (Nat × PF)} {pf : PFr}, zcf l pf → ∀ t, PFr.ofL l t = pf t ∨ PFr.ofL l t = jP := by
 intro l
 induction l with
 | nil => intro pf _ t; exact .inr rfl
 | cons p l ih =>
  intro pf h t
  obtain ⟨s, x⟩ := p
  obtain ⟨h1, h2⟩ := h
  by_cases e : t = s
  ·subst e; left; simp [PFr.ofL, h1]
  ·rcases ih h2 t with e2 | e2
   ·left; simpa [PFr.ofL, e] using e2
   ·right; simpa [PFr.ofL, e] using e2
theorem zhn {l : List (Nat × PF)} {pf : PFr} (h : zcf l pf) : PWeak (PFr.ofL l) pf := .w (zoA h)
theorem zmI : PWeak pf pf := .w fun _ => .inl rfl
theorem zoJ : ∀ (row : List PV) (j : Nat) (y : PV), j < row.length → zei row j [y] = some (row.set j y)
 | [], _, _, h => by simp at h
 | c :: cs, 0, y, _ => by cases cs <;> rfl
 | c :: cs, j + 1, y, h => by
  show (zei cs j [y]).map (c :: ·) = some (c :: cs.set j y)
  rw [zoJ cs j y (by simpa using h)]; rfl
theorem zus {pf2 pf : PFr} (s j : Nat) {row : List PV} {y : PV} (hs : pf s = .bl row) (hy : row[j]? = some y) (hj : isJ y = false) (h : PWeak pf2 ((pf.upd s (.bl (row.set j (drop y)))).kill s 1)) : PWeak pf2 pf := by
 have hl : j < row.length := (List.getElem?_eq_some_iff.1 hy).1
 refine .g s [(0, j)] y (by simp) ?_ hj ?_ h
 ·simp [zaC, hs, za8, zdC, zcs, hy]
 ·simp [zcD, zeO, zdP, hs, za8, zec, zdO, zoJ _ _ _ hl, ze9]
theorem zd0 (s j : Nat) {x : Code} {row : List PV} {y : PV} (hs : pf s = .bl row) (hy : row[j]? = some y) (hj : isJ y = false) (h : pw P c (.wk x :: k) Q ((pf.upd s (.bl (row.set j (drop y)))).kill s 1)) : pw P c (.wk x :: k) Q pf :=
 let ⟨pf2, h1, h2⟩ := h; ⟨pf2, zus s j hs hy hj h1, h2⟩
theorem zav {x : Code} (h : pw P c (.code x :: k) Q pf) : pw P c (.wk x :: k) Q pf := ⟨pf, zmI, h⟩
theorem zmq {x : Code} (l : List (Nat × PF)) (ha : zcf l pf) (h : pw P c (.code x :: k) Q (PFr.ofL l)) : pw P c (.wk x :: k) Q pf := ⟨PFr.ofL l, zhn ha, h⟩
theorem zlS {b : Operand} {x y : Code} {v : Bool} (hb : rdS pf b = some (.bool v)) (ht : v = true → pw P c (.code x :: k) Q pf) (he : v = false → pw P c (.code y :: k) Q pf) :
 pw P c (.code (.cond b x y) :: k) Q pf := by
 refine ⟨pf, zmI, ?_⟩
 rw [hb]
 cases v
 ·exact he rfl
 ·exact ht rfl
theorem zkF {b : Operand} {x y : Code} (hb : rdS pf b = some (.bool true)) (ht : pw P c (.code x :: k) Q pf) : pw P c (.code (.cond b x y) :: k) Q pf := zlS hb (fun _ => ht) (fun h => by cases h)
theorem znB {b : Operand} {x y : Code} (hb : rdS pf b = some (.bool false)) (ht : pw P c (.code y :: k) Q pf) : pw P c (.code (.cond b x y) :: k) Q pf := zlS hb (fun h => by cases h) (fun _ => ht)
def ztH {σ : Type} (shape : σ → List (Nat × PF)) (I : σ → Prop) (meas : σ → Nat) (n : Nat) (pf : PFr) : Prop := ∃ s, zcf (shape s) pf ∧ I s ∧ meas s < n
def ztV {σ : Type} (P : Program) (c : Cfg) (shape : σ → List (Nat × PF)) (I : σ → Prop) (meas : σ → Nat) (n : Nat) (k : List PIt) (Q : Exit → PFr → Prop) : Exit → PFr → Prop
 | .normal, pf => ztH shape I meas n pf
 | e, pf => zbJ P c k Q e pf
@[go_sem ↓] theorem zxh {σ : Type} {shape : σ → List (Nat × PF)} {I : σ → Prop} {meas : σ → Nat} {n : Nat} : ztV P c shape I meas n k Q .normal pf = ztH shape I meas n pf := rfl
@[go_sem ↓] theorem zy6 {σ : Type} {shape : σ → List (Nat × PF)} {I : σ → Prop} {meas : σ → Nat} {n id : Nat} : ztV P c shape I meas n k Q (.exit id) pf = pwx P c id k Q pf := rfl
end
end Go.Pm
