import Derived.Test.YtpkjdjnakplnjaaGreatPmR
namespace Go.Pm
open Go.Am
inductive PIt where
 | code (c : Code)
 | wk (c : Code)
 | ops (pre : List (Option Tmp)) (l : List Oper)
 | dops (pre : List (Option Tmp)) (l : List (DE × Oper))
 | blk (id : Nat)
def zbI (P : Program) (c : Cfg) : List PIt → (Exit → PFr → Prop) → Exit → PFr → Prop
 | [], Q, e => Q e
 | it :: k, Q, e => match e with
  | .normal => match it with
   | .code x => pwp P c x (zbI P c k Q)
   | .wk x => fun pf => ∃ pf2, PWeak pf2 pf ∧ pwp P c x (zbI P c k Q) pf2
   | .ops pre l => zms P c pre l (zbI P c k Q .normal)
   | .dops pre l => zlB P c pre l (zbI P c k Q .normal)
   | .blk _ => zbI P c k Q .normal
  | .exit id => match it with
   | .blk i => if id = i then zbI P c k Q .normal else zbI P c k Q (.exit id)
   | _ => zbI P c k Q (.exit id)
  | e => zbI P c k Q e
def pw (P : Program) (c : Cfg) (k : List PIt) (Q : Exit → PFr → Prop) (pf : PFr) : Prop := zbI P c k Q .normal pf
section
variable {P : Program} {c : Cfg} {K K2 : PFr → Prop}
theorem zvD (hk : ∀ pf, K pf → K2 pf) {d : Nat} {x : Option (PF × PFr)} (h : pfz K d x) : pfz K2 d x := by
 cases x with
 | none => exact h
 | some x => exact hk _ h
theorem zaL (hk : ∀ pf, K pf → K2 pf) {d : Option Tmp} {y : PF} {pf : PFr} (h : zbE c K d y pf) : zbE c K2 d y pf := by
 cases d with
 | none => exact hk _ h
 | some d =>
  refine ⟨h.1, ?_⟩
  have h2 := h.2
  split at h2
  ·rename_i hh; rw [if_pos hh]; exact zvD hk h2
  ·rename_i hh; rw [if_neg hh]; exact hk _ h2
theorem zql (hk : ∀ pf, K pf → K2 pf) {d : Option Tmp} {pf : PFr} {x : Option AD} (h : pad c K d pf x) : pad c K2 d pf x := by
 cases x with
 | none => exact h
 | some x => exact zaL hk h
theorem zhd (hk : ∀ pf, K pf → K2 pf) {o : Oper} {pf : PFr} (h : zef P c o K pf) : zef P c o K2 pf := by
 unfold zef at h ⊢
 split at h
 ·split at h
  ·exact zaL hk h
  ·exact h
 ·exact h
theorem zug (hk : ∀ pf, K pf → K2 pf) {d : Option Tmp} {r : PV} {x : Option PFr} (h : zsm c d K r x) : zsm c d K2 r x := by
 cases x with
 | none => exact h
 | some x => exact zaL hk h
theorem zlV (hk : ∀ pf, K pf → K2 pf) {f : Operand} {args : List Operand} {ts : List TypeId} {d : Option Tmp} {pf : PFr} {ms : List Md} (h : zkM P c f args ts d K pf ms) : zkM P c f args ts d K2 pf ms := by
 refine ⟨h.1, ?_⟩
 have h2 := h.2
 unfold zpA at h2 ⊢
 split at h2
 ·unfold zkE at h2 ⊢
  split at h2
  ·exact h2.mono fun r outs hh => ⟨hh.1, zug hk hh.2⟩
  ·exact h2
 ·exact h2
theorem zrV (hk : ∀ pf, K pf → K2 pf) {op : BinOp} {t : TypeId} {x : Operand} {d : Option Tmp} {pf : PFr} (h : zkb P c op t x d K pf) : zkb P c op t x d K2 pf := by
 unfold zkb at h ⊢
 split at h
 ·exact ⟨h.1, fun b hb => zaL hk (h.2 b hb)⟩
 ·exact h
theorem zrS (hk : ∀ pf, K pf → K2 pf) {s t : TypeId} {x : Operand} {d : Option Tmp} {pf : PFr} (h : zie P c s t x d K pf) : zie P c s t x d K2 pf := by
 unfold zie at h ⊢
 split at h
 ·exact ⟨h.1, zaL hk h.2⟩
 ·exact h
theorem zj4 (hk : ∀ pf, K pf → K2 pf) {o : Oper} {pf : PFr} (h : pop P c o K pf) : pop P c o K2 pf := by
 unfold pop at h ⊢
 split at h
 ·unfold zlk at h ⊢
  split at h
  ·exact zaL hk h
  ·split at h
   ·exact zaL hk h
   ·exact h
 ·unfold zjA at h ⊢
  split at h
  ·refine ⟨h.1, h.2.1, ?_⟩
   have h3 := h.2.2
   unfold zim at h3 ⊢
   split at h3
   ·split at h3
    ·exact hk _ h3
    ·exact h3
   ·exact h3
  ·exact h
 ·exact zql hk h
 ·unfold zjv at h ⊢
  split at h
  ·exact zaL hk h
  ·split at h
   ·exact zaL hk h
   ·exact h
 ·exact zql hk h
 ·unfold zjO at h ⊢
  split at h
  ·refine ⟨h.1, ?_⟩
   have h3 := h.2
   split at h3
   ·rename_i hh; rw [if_pos hh]; exact hk _ h3
   ·rename_i hh; rw [if_neg hh]; exact hk _ h3
  ·exact h
 ·unfold znI at h ⊢
  split at h
  ·refine ⟨h.1, h.2.1, h.2.2.1, ?_⟩
   have h3 := h.2.2.2
   split at h3
   ·rename_i hh; rw [if_pos hh]
    split at h3
    ·rename_i hh; rw [if_pos hh]; exact hk _ h3
    ·rename_i hh; rw [if_neg hh]; exact hk _ h3
   ·rename_i hh; rw [if_neg hh]; exact hk _ h3
  ·exact h
 ·unfold znw at h ⊢
  split at h
  ·rename_i hm
   rw [if_pos hm]
   unfold zmJ at h ⊢
   split at h
   ·exact zaL hk h
   ·exact h
  rename_i hm
  rw [if_neg hm]
  split at h
  ·refine ⟨h.1, ?_⟩
   have h3 := h.2
   unfold zoO at h3 ⊢
   split at h3
   ·exact ⟨h3.1, hk _ h3.2⟩
   ·exact h3
  ·exact h
 ·unfold zjI at h ⊢
  split at h
  ·unfold zs1 at h ⊢
   split at h
   ·exact zaL hk h
   ·exact h
  ·exact h
 ·unfold zll zs9 at h ⊢
  split at h
  ·split at h
   ·exact zaL hk h
   ·exact h
  ·split at h
   ·exact zaL hk h
   ·exact h
  ·exact h
 ·unfold zlm at h ⊢
  split at h
  ·unfold zsl at h ⊢
   split at h
   ·exact ⟨h.1, zaL hk h.2⟩
   ·exact h
  ·exact h
 ·unfold zlp at h ⊢
  split at h
  ·exact zaL hk h
  ·exact h
 ·unfold zhc at h ⊢
  split at h
  ·unfold zgz at h ⊢
   split at h
   ·refine ⟨h.1, ?_⟩
    have h3 := h.2
    split at h3
    ·rename_i hh; rw [if_pos hh]; exact zaL hk h3
    ·rename_i hh; rw [if_neg hh]; exact zaL hk h3
   ·exact ⟨h.1, zaL hk h.2⟩
   ·exact zaL hk h
   ·exact h
   ·exact h
   ·exact zaL hk h
  ·split at h
   ·exact zaL hk h
   ·exact h
 ·unfold ziq at h ⊢
  split at h
  ·exact zaL hk h
  ·split at h
   ·exact zaL hk h
   ·exact h
 ·unfold zhu at h ⊢
  split at h
  ·refine ⟨h.1, ?_⟩
   have h2 := h.2
   unfold pex at h2 ⊢
   split at h2
   ·refine ⟨h2.1, ?_⟩
    have h3 := h2.2
    split at h3
    ·rename_i hh; rw [if_pos hh]; exact zaL hk h3
    ·rename_i hh; rw [if_neg hh]; exact zaL hk h3
   ·exact h2
  ·exact h
 ·split at h
  ·rename_i hh; rw [if_pos hh]; exact zhd hk h
  ·rename_i hh; rw [if_neg hh]
   unfold zjQ at h ⊢
   split at h
   ·unfold zn3 at h ⊢
    split at h
    ·split at h
     ·exact zaL hk h
     ·exact h
    ·split at h
     ·exact ⟨h.1, h.2.1, zaL hk h.2.2⟩
     ·exact h
    ·exact h
   ·exact h
 ·unfold zr2 at h ⊢
  split at h
  ·split at h
   ·rename_i hh; rw [if_pos hh]; exact zhd hk h
   ·rename_i hh; rw [if_neg hh]
    unfold zmf at h ⊢
    split at h
    ·split at h
     ·exact fun hl => zaL hk (h hl)
     ·exact h
    ·exact h
  ·exact h
 ·unfold zsM at h ⊢
  split at h
  ·split at h
   ·rename_i htt
    rw [if_pos htt]
    unfold znB at h ⊢
    split at h
    ·unfold zoX at h ⊢
     split at h
     ·split at h
      ·unfold zo1 at h ⊢
       split at h
       ·exact ⟨h.1, h.2.1, zaL hk h.2.2⟩
       ·exact h
      ·exact h
     ·exact h
    ·exact h
   ·rename_i htt
    rw [if_neg htt]
    unfold znk at h ⊢
    split at h
    ·refine ⟨h.1, ?_⟩
     have h := h.2
     unfold zrQ at h ⊢
     split at h
     ·split at h
      ·exact ⟨h.1, zaL hk h.2⟩
      ·exact h
     ·exact h
    ·exact h
  ·exact h
 ·rcases h with ⟨ms, h⟩ | ⟨g, x, t, n, z, a1, a2, a3, a4, a5, a6, h⟩
  ·exact .inl ⟨ms, zlV hk h⟩
  ·exact .inr ⟨g, x, t, n, z, a1, a2, a3, a4, a5, a6, zaL hk h⟩
 all_goals first
  | exact zhd hk h
  | (split at h
     ·rename_i hh; rw [if_pos hh]; exact ⟨h.1, zrV hk h.2⟩
     ·rename_i hh; rw [if_neg hh]; exact zhd hk h)
  | (split at h
     ·rename_i hh; rw [if_pos hh]; exact ⟨h.1, zrS hk h.2⟩
     ·rename_i hh; rw [if_neg hh]; exact zhd hk h)
  | exact h
theorem zsP (hk : ∀ pf, K pf → K2 pf) {d : Option Tmp} {pf : PFr} (h : zhK c d K pf) : zhK c d K2 pf := by
 cases d with
 | none => exact hk _ h
 | some d => exact ⟨h.1, hk _ h.2⟩
theorem zpS (hk : ∀ pf, K pf → K2 pf) {b : Bool} {d : Option Tmp} {r r2 : Prop} (hr : r → r2) {pf : PFr} {y : Option (Option Bool)} (h : pgo c b d r K pf y) : pgo c b d r2 K2 pf y := by
 unfold pgo at h ⊢
 split at h
 ·split at h
  ·rename_i hh; rw [if_pos hh]; exact hr h
  ·rename_i hh; rw [if_neg hh]; exact zsP hk h
 ·exact h
theorem ztL {pre : List (Option Tmp)} : ∀ {l : List Oper} {K K2 : PFr → Prop} (_ : ∀ pf, K pf → K2 pf) {pf : PFr}, zms P c pre l K pf → zms P c pre l K2 pf := by
 intro l
 induction l with
 | nil => intro K K2 hk pf h; exact hk _ h
 | cons o l ih =>
  intro K K2 hk pf h
  simp only [zms, zk8] at h ⊢
  split at h
  ·exact zj4 (fun _ hh => ih hk hh) h
  ·exact zpS (fun _ hh => ih hk hh) (zj4 fun _ hh => ih hk hh) h
theorem zok (hk : ∀ pf, K pf → K2 pf) {ext : Bool} {o : Oper} {pf : PFr} (h : zh5 P c ext o K pf) : zh5 P c ext o K2 pf := by
 unfold zh5 at h ⊢
 split at h
 ·split at h
  ·rename_i hx; rw [if_pos hx]; exact zlV hk h
  ·rename_i hx; rw [if_neg hx]; exact zj4 hk h
 ·exact ⟨h.1, zj4 hk h.2⟩
theorem zsh {pre : List (Option Tmp)} : ∀ {l : List (DE × Oper)} {K K2 : PFr → Prop} (_ : ∀ pf, K pf → K2 pf) {pf : PFr}, zlB P c pre l K pf → zlB P c pre l K2 pf := by
 intro l
 induction l with
 | nil => intro K K2 hk pf h; exact hk _ h
 | cons x l ih =>
  obtain ⟨e, o⟩ := x
  intro K K2 hk pf h
  refine ⟨h.1, ?_⟩
  have h2 := h.2
  unfold zmL at h2 ⊢
  split at h2
  ·exact zok (fun _ hh => ih hk hh) h2
  ·exact zpS (fun _ hh => ih hk hh) (zok fun _ hh => ih hk hh) h2
theorem zmk : ∀ (x : Code) {Q Q2 : Exit → PFr → Prop}, (∀ e pf, Q e pf → Q2 e pf) → ∀ {pf}, pwp P c x Q pf → pwp P c x Q2 pf := by
 intro x
 induction x with
 | skip => intro Q Q2 hq pf h; exact hq _ _ h
 | region id ops draw =>
  intro Q Q2 hq pf h
  simp only [pwp] at h ⊢
  split at h
  ·rename_i hd
   rw [if_pos hd]
   obtain ⟨a, n, h⟩ := h
   exact ⟨a, n, zjt (fun _ => zsh (hq .normal)) h⟩
  ·rename_i hd; rw [if_neg hd]; exact ztL (hq .normal) h
 | seq x y ihx ihy =>
  intro Q Q2 hq pf h
  refine ihx (fun e pf h => ?_) h
  cases e <;> try exact hq _ _ h
  obtain ⟨pf2, hw, h⟩ := h
  exact ⟨pf2, hw, ihy hq h⟩
 | cond b x y ihx ihy =>
  intro Q Q2 hq pf h
  obtain ⟨pf2, hw, h⟩ := h
  refine ⟨pf2, hw, ?_⟩
  unfold zvl at h ⊢
  split at h
  ·split at h
   ·rename_i e; rw [if_pos e]; exact ihx hq h
   ·rename_i e; rw [if_neg e]; exact ihy hq h
  ·exact h
 | block id b ih =>
  intro Q Q2 hq pf h
  refine ih (fun e pf h => ?_) h
  cases e <;> try exact hq _ _ h
  simp only [zkN] at h ⊢
  split at h
  ·rename_i e; rw [if_pos e]; exact hq _ _ h
  ·rename_i e; rw [if_neg e]; exact hq _ _ h
 | loop b ih =>
  intro Q Q2 hq pf h
  obtain ⟨n, hn⟩ := h
  refine ⟨n, ?_⟩
  induction n generalizing pf with
  | zero => exact hn
  | succ n ihn =>
   obtain ⟨pf2, hw, hn⟩ := hn
   refine ⟨pf2, hw, ih (fun e pf h => ?_) hn⟩
   cases e <;> first | exact ihn h | exact hq _ _ h
 | exit id => intro Q Q2 hq pf h; exact hq _ _ h
 | ret => intro Q Q2 hq pf h; exact hq _ _ h
 | _ => intros; rename_i h; exact absurd h (by simp [pwp])
end
section
variable {P : Program} {c : Cfg} {k : List PIt} {Q : Exit → PFr → Prop} {pf : PFr}
theorem zvO {pf' : PFr} (h : pf = pf') : pw P c k Q pf = pw P c k Q pf' := by rw [h]
@[go_sem ↓] theorem zNp : pw P c [] Q pf = Q .normal pf := rfl
@[go_sem ↓] theorem zLX {i : Nat} : pw P c (.blk i :: k) Q pf = pw P c k Q pf := rfl
@[go_sem ↓] theorem zLe : pw P c (.code .skip :: k) Q pf = pw P c k Q pf := rfl
@[go_sem ↓] theorem zuP {x y : Code} : pw P c (.code (.seq x y) :: k) Q pf = pw P c (.code x :: .wk y :: k) Q pf := by
 show pwp P c x (zwr (fun pf => ∃ pf2, PWeak pf2 pf ∧ pwp P c y (zbI P c k Q) pf2) (zbI P c k Q)) pf = pwp P c x (zbI P c (.wk y :: k) Q) pf
 congr 1
 funext e
 cases e <;> rfl
@[go_sem ↓] theorem pw_block {id : Nat} {b : Code} : pw P c (.code (.block id b) :: k) Q pf = pw P c (.code b :: .blk id :: k) Q pf := by
 show pwp P c b (zkN id (zbI P c k Q)) pf = pwp P c b (zbI P c (.blk id :: k) Q) pf
 congr 1
 funext e
 cases e <;> try rfl
 funext pf
 simp only [zkN, zbI]
 split <;> rfl
theorem zkS : zbI P c k Q .ret = Q .ret := by
 induction k with
 | nil => rfl
 | cons it k ih => exact ih
@[go_sem ↓] theorem zNv : pw P c (.code .ret :: k) Q pf = Q .ret pf := by
 show zbI P c k Q .ret pf = _
 rw [zkS]
def pwx (P : Program) (c : Cfg) (id : Nat) (k : List PIt) (Q : Exit → PFr → Prop) (pf : PFr) : Prop := zbI P c k Q (.exit id) pf
@[go_sem ↓] theorem zKV {id : Nat} : pw P c (.code (.exit id) :: k) Q pf = pwx P c id k Q pf := rfl
@[go_sem ↓] theorem zI0 {id : Nat} : pwx P c id [] Q pf = Q (.exit id) pf := rfl
@[go_sem ↓] theorem zHa {id : Nat} {x : Code} : pwx P c id (.code x :: k) Q pf = pwx P c id k Q pf := rfl
@[go_sem ↓] theorem zNE {id : Nat} {x : Code} : pwx P c id (.wk x :: k) Q pf = pwx P c id k Q pf := rfl
@[go_sem ↓] theorem zLa {id : Nat} {pre : List (Option Tmp)} {l : List Oper} : pwx P c id (.ops pre l :: k) Q pf = pwx P c id k Q pf := rfl
@[go_sem ↓] theorem zHw {id : Nat} {pre : List (Option Tmp)} {l : List (DE × Oper)} : pwx P c id (.dops pre l :: k) Q pf = pwx P c id k Q pf := rfl
@[go_sem ↓] theorem zLC {id i : Nat} : pwx P c id (.blk i :: k) Q pf = if id = i then pw P c k Q pf else pwx P c id k Q pf := by
 show (zbI P c (.blk i :: k) Q (.exit id)) pf = _
 simp only [zbI]
 split <;> rfl
def PFr.ofL : List (Nat × PF) → PFr
 | [], _ => jP
 | (s, x) :: l, t => if t = s then x else PFr.ofL l t
def zco : List (Nat × PF) → PFr → Prop
 | [], _ => True
 | (s, x) :: l, pf => pf s = x ∧ zco l pf
@[go_sem] theorem zAN {pf : PFr} : zco [] pf = True := rfl
@[go_sem] theorem zzZ {s : Nat} {x : PF} {l : List (Nat × PF)} {pf : PFr} : zco ((s, x) :: l) pf = (pf s = x ∧ zco l pf) := rfl
theorem zpX : ∀ {l : List (Nat × PF)} {pf : PFr}, zco l pf → ∀ t, PFr.ofL l t = pf t ∨ PFr.ofL l t = jP := by
 intro l
 induction l with
 | nil => intro pf _ t; exact .inr rfl
 | cons p l ih =>
  intro pf h t
  obtain ⟨s, x⟩ := p
  obtain ⟨h1, h2⟩ := h
  by_cases e : t = s
  ·subst e; left; simp [PFr.ofL, h1]
  ·rcases ih h2 t with e2 | e2
   ·left; simpa [PFr.ofL, e] using e2
   ·right; simpa [PFr.ofL, e] using e2
theorem zhQ {l : List (Nat × PF)} {pf : PFr} (h : zco l pf) : PWeak (PFr.ofL l) pf := .w (zpX h)
theorem zm8 : PWeak pf pf := .w fun _ => .inl rfl
theorem zp5 : ∀ (row : List PV) (j : Nat) (y : PV), j < row.length → zeI row j [y] = some (row.set j y)
 | [], _, _, h => by simp at h
 | c :: cs, 0, y, _ => by cases cs <;> rfl
 | c :: cs, j + 1, y, h => by
  show (zeI cs j [y]).map (c :: ·) = some (c :: cs.set j y)
  rw [zp5 cs j y (by simpa using h)]; rfl
theorem zv1 {pf2 pf : PFr} (s j : Nat) {row : List PV} {y : PV} (hs : pf s = .bl row) (hy : row[j]? = some y) (hj : isJ y = false) (h : PWeak pf2 ((pf.upd s (.bl (row.set j (drop y)))).kill s 1)) : PWeak pf2 pf := by
 have hl : j < row.length := (List.getElem?_eq_some_iff.1 hy).1
 refine .g s [(0, j)] y (by simp) ?_ hj ?_ h
 ·simp [zaC, hs, zbh, zdS, zcD, hy]
 ·simp [zcf, zeD, zdx, hs, zbh, zez, zd0, zp5 _ _ _ hl, zfy]
theorem zeJ (s j : Nat) {x : Code} {row : List PV} {y : PV} (hs : pf s = .bl row) (hy : row[j]? = some y) (hj : isJ y = false) (h : pw P c (.wk x :: k) Q ((pf.upd s (.bl (row.set j (drop y)))).kill s 1)) : pw P c (.wk x :: k) Q pf :=
 let ⟨pf2, h1, h2⟩ := h; ⟨pf2, zv1 s j hs hy hj h1, h2⟩
theorem zau {x : Code} (h : pw P c (.code x :: k) Q pf) : pw P c (.wk x :: k) Q pf := ⟨pf, zm8, h⟩
theorem znj {x : Code} (l : List (Nat × PF)) (ha : zco l pf) (h : pw P c (.code x :: k) Q (PFr.ofL l)) : pw P c (.wk x :: k) Q pf := ⟨PFr.ofL l, zhQ ha, h⟩
theorem zmj {b : Operand} {x y : Code} {v : Bool} (hb : rdS pf b = some (.bool v)) (ht : v = true → pw P c (.code x :: k) Q pf) (he : v = false → pw P c (.code y :: k) Q pf) :
 pw P c (.code (.cond b x y) :: k) Q pf := by
 refine ⟨pf, zm8, ?_⟩
 rw [hb]
 cases v
 ·exact he rfl
 ·exact ht rfl
theorem zkG {b : Operand} {x y : Code} (hb : rdS pf b = some (.bool true)) (ht : pw P c (.code x :: k) Q pf) : pw P c (.code (.cond b x y) :: k) Q pf := zmj hb (fun _ => ht) (fun h => by cases h)
theorem zov {b : Operand} {x y : Code} (hb : rdS pf b = some (.bool false)) (ht : pw P c (.code y :: k) Q pf) : pw P c (.code (.cond b x y) :: k) Q pf := zmj hb (fun h => by cases h) (fun _ => ht)
def ztD {σ : Type} (shape : σ → List (Nat × PF)) (I : σ → Prop) (meas : σ → Nat) (n : Nat) (pf : PFr) : Prop := ∃ s, zco (shape s) pf ∧ I s ∧ meas s < n
def zpJ {σ : Type} (P : Program) (c : Cfg) (shape : σ → List (Nat × PF)) (I : σ → Prop) (meas : σ → Nat) (n : Nat) (k : List PIt) (Q : Exit → PFr → Prop) : Exit → PFr → Prop
 | .normal, pf => ztD shape I meas n pf
 | e, pf => zbI P c k Q e pf
@[go_sem ↓] theorem zxU {σ : Type} {shape : σ → List (Nat × PF)} {I : σ → Prop} {meas : σ → Nat} {n : Nat} : zpJ P c shape I meas n k Q .normal pf = ztD shape I meas n pf := rfl
@[go_sem ↓] theorem zzI {σ : Type} {shape : σ → List (Nat × PF)} {I : σ → Prop} {meas : σ → Nat} {n id : Nat} : zpJ P c shape I meas n k Q (.exit id) pf = pwx P c id k Q pf := rfl
@[go_sem ↓] theorem zAL {σ : Type} {shape : σ → List (Nat × PF)} {I : σ → Prop} {meas : σ → Nat} {n : Nat} : zpJ P c shape I meas n k Q .ret pf = Q .ret pf := by
 show zbI P c k Q .ret pf = _
 rw [zkS]
end
end Go.Pm
