/-
  The abstract machine, part P: regions whose order is drawn, run by hand; slices as lists of elements; append, make.
  No condition.
-/
import Derived.Test.YthdjiekgolgmfaaAmO
namespace Go.Am

section
variable {P : Program} {nt : Nat} {k : List It} {Q : Exit → FR → AH → Prop} {fr : FR} {H : AH}

-- regions whose order is drawn
def oget : List Oper → Nat → Oper
  | [], _ => default
  | o :: _, 0 => o
  | _ :: r, n + 1 => oget r n
theorem oget_eq : ∀ {l : List Oper} {n : Nat}, oget l n = l.getD n default
  | [], _ => rfl
  | _ :: _, 0 => rfl
  | _ :: r, n + 1 => by simp only [oget, List.getD_cons_succ]; exact oget_eq
@[go_sem ↓] theorem oget_zero {o : Oper} {l : List Oper} : oget (o :: l) 0 = o := rfl
@[go_sem ↓] theorem oget_succ {o : Oper} {l : List Oper} {n : Nat} : oget (o :: l) (n + 1) = oget l n := rfl
def dlist (ops : List Oper) (D : List DE) : List (DE × Oper) := D.map fun x => (x, oget ops x.i)

/-- A REGION WHOSE ORDER IS DRAWN is run in the order of 'D'. -/
theorem aw_draw {id : Nat} {ops : List Oper} (D : List DE) (h : drawOk D ops = true) (hh : aw P nt (.dops (ops.map (·.dst)) (dlist ops D) :: k) Q fr H) : aw P nt (.code (.region id ops.toArray true) :: k) Q fr H := by
  refine ⟨D, h, ?_⟩
  have e : (D.map fun x => (x, ops.getD x.i default)) = dlist ops D := by
    unfold dlist
    simp only [oget_eq]
  show dops P nt (ops.map (·.dst)) (D.map fun x => (x, ops.getD x.i default)) _ fr H
  rw [e]
  exact hh

def awo (P : Program) (nt : Nat) (pre : List (Option Tmp)) (x : DE) (o : Oper) (k : List It) (Q : Exit → FR → AH → Prop) (fr : FR) (H : AH) : Prop := dop P nt pre x o (aw P nt k Q) fr H
theorem awo_congr {pre : List (Option Tmp)} {x : DE} {o o' : Oper} (h : o = o') : awo P nt pre x o k Q fr H = awo P nt pre x o' k Q fr H := by rw [h]
@[go_sem ↓] theorem aw_dops_nil {pre : List (Option Tmp)} {ops : List Oper} : aw P nt (.dops pre (dlist ops []) :: k) Q fr H = aw P nt k Q fr H := rfl
@[go_sem ↓] theorem aw_dops_cons {pre : List (Option Tmp)} {ops : List Oper} {i : Nat} {sl rg : List Nat} {mr : Option Nat} {ls ext : Bool} {D : List DE} :
    aw P nt (.dops pre (dlist ops (⟨i, sl, rg, mr, ls, ext⟩ :: D)) :: k) Q fr H = awo P nt pre ⟨i, sl, rg, mr, ls, ext⟩ (oget ops i) (.dops pre (dlist ops D) :: k) Q fr H := rfl
def awd (b : Bool) (p : Prop) : Prop := b = true ∧ p
theorem awd_congr {b b' : Bool} {p : Prop} (h : b = b') : awd b p = awd b' p := by rw [h]
@[go_sem ↓] theorem awd_true {p : Prop} : awd true p = p := by simp [awd]
/-- One operation of such a region; 'ext': the heap may only grow. -/
def awe (P : Program) (nt : Nat) (ext : Bool) (op : Op) (d : Option Tmp) (k : List It) (Q : Exit → FR → AH → Prop) (fr : FR) (H : AH) : Prop :=
  if ext = true then aw1 P nt op d (.chk (Ext H) :: k) Q fr H else aw1 P nt op d k Q fr H
@[go_sem ↓] theorem awe_true {op : Op} {d : Option Tmp} : awe P nt true op d k Q fr H = aw1 P nt op d (.chk (Ext H) :: k) Q fr H := rfl
@[go_sem ↓] theorem awe_false {op : Op} {d : Option Tmp} : awe P nt false op d k Q fr H = aw1 P nt op d k Q fr H := rfl
@[go_sem ↓] theorem aw_chk {p : AH → Prop} : aw P nt (.chk p :: k) Q fr H = (p H ∧ aw P nt k Q fr H) := rfl
theorem awe_eq {ext : Bool} {op : Op} {d : Option Tmp} {ty : TypeId} {ps : String} {af : Array Edge} {pre : List (Option Tmp)} :
    gop P nt pre ⟨d, op, ty, ps, af, none⟩ (fun fr' H' => (ext = true → Ext H H') ∧ aw P nt k Q fr' H') fr H = awe P nt ext op d k Q fr H := by
  cases ext with
  | true =>
    simp only [gop, true_implies]
    exact aop_at rfl rfl
  | false =>
    simp only [gop, reduceCtorEq, false_implies, true_and]
    exact aop_at rfl rfl
@[go_sem ↓] theorem awo_mk {pre : List (Option Tmp)} {i : Nat} {sl rg : List Nat} {mr : Option Nat} {ls ext : Bool} {d : Option Tmp} {op : Op} {ty : TypeId} {ps : String} {af : Array Edge} :
    awo P nt pre ⟨i, sl, rg, mr, ls, ext⟩ ⟨d, op, ty, ps, af, none⟩ k Q fr H = awd (okL rg ls fr sl && okR fr mr) (awe P nt ext op d k Q fr H) := by
  unfold awo dop awd
  rw [awe_eq]
  rfl
def awge (P : Program) (nt : Nat) (ext : Bool) (y : Option (Option Bool)) (b : Bool) (op : Op) (d : Option Tmp) (k : List It) (Q : Exit → FR → AH → Prop) (fr : FR) (H : AH) : Prop :=
  match y with
  | some y => if y = some b then awe P nt ext op d k Q fr H else putO nt (aw P nt k Q) d .skip fr H
  | none => False
theorem awge_congr {ext : Bool} {y y' : Option (Option Bool)} {b : Bool} {op : Op} {d : Option Tmp} (h : y = y') : awge P nt ext y b op d k Q fr H = awge P nt ext y' b op d k Q fr H := by rw [h]
@[go_sem ↓] theorem awo_gmk {pre : List (Option Tmp)} {i : Nat} {sl rg : List Nat} {mr : Option Nat} {ls ext : Bool} {d : Option Tmp} {op : Op} {ty : TypeId} {ps : String} {af : Array Edge} {j : Nat} {b : Bool} :
    awo P nt pre ⟨i, sl, rg, mr, ls, ext⟩ ⟨d, op, ty, ps, af, some (j, b)⟩ k Q fr H = awd (okL rg ls fr sl && okR fr mr) (awge P nt ext (yj fr pre[j]?) b op d k Q fr H) := by
  have e : yieldA fr pre j = yj fr pre[j]? := by
    unfold yieldA yj yv
    split
    · rename_i d' h; rw [h]
      simp only
      split <;> simp_all
    · rename_i h
      split
      · rename_i d' h'; exact absurd h' (h d')
      · rfl
  unfold awo dop awd
  congr 1
  simp only [gop, e, awge]
  cases yj fr pre[j]? with
  | none => rfl
  | some y =>
    simp only
    split
    · have := awe_eq (P := P) (nt := nt) (k := k) (Q := Q) (fr := fr) (H := H) (ext := ext) (op := op) (d := d) (ty := ty) (ps := ps) (af := af) (pre := pre)
      rw [← this]
      simp only [gop]
      exact aop_at rfl rfl
    · unfold putO
      cases d with
      | none => simp only [eq_iff_iff, and_iff_right_iff_imp]; exact fun _ _ => .refl H
      | some d =>
        simp only
        split
        · simp only [eq_iff_iff, and_iff_right_iff_imp]; exact fun _ _ => .refl H
        · rfl
@[go_sem ↓] theorem awge_tt {ext : Bool} {op : Op} {d : Option Tmp} : awge P nt ext (some (some true)) true op d k Q fr H = awe P nt ext op d k Q fr H := by simp [awge]
@[go_sem ↓] theorem awge_ff {ext : Bool} {op : Op} {d : Option Tmp} : awge P nt ext (some (some false)) false op d k Q fr H = awe P nt ext op d k Q fr H := by simp [awge]
@[go_sem ↓] theorem awge_tf {ext : Bool} {op : Op} {d : Tmp} (h : d < nt) : awge P nt ext (some (some true)) false op (some d) k Q fr H = aw P nt k Q (fr.put d .skip) H := by simp [awge, putO, h]
@[go_sem ↓] theorem awge_ft {ext : Bool} {op : Op} {d : Tmp} (h : d < nt) : awge P nt ext (some (some false)) true op (some d) k Q fr H = aw P nt k Q (fr.put d .skip) H := by simp [awge, putO, h]
@[go_sem ↓] theorem awge_n {ext b : Bool} {op : Op} {d : Tmp} (h : d < nt) : awge P nt ext (some none) b op (some d) k Q fr H = aw P nt k Q (fr.put d .skip) H := by simp [awge, putO, h]
theorem awge_split {ext y b : Bool} {op : Op} {d : Tmp} (hd : d < nt) (h1 : y = b → awe P nt ext op (some d) k Q fr H) (h2 : y = !b → aw P nt k Q (fr.put d .skip) H) : awge P nt ext (some (some y)) b op (some d) k Q fr H := by
  unfold awge
  simp only
  split
  · rename_i h; exact h1 (by simpa using h)
  · rename_i h
    simp only [putO, if_pos hd]
    refine h2 ?_
    cases y <;> cases b <;> simp_all
@[go_sem ↓] theorem okL_nil {rg : List Nat} {ls : Bool} : okL rg ls fr [] = true := rfl
@[go_sem] theorem okL_cons {rg l : List Nat} {ls : Bool} {t : Nat} : okL rg ls fr (t :: l) = (okS rg ls t (fr t) && okL rg ls fr l) := rfl
@[go_sem] theorem okR_none : okR fr none = true := rfl
@[go_sem] theorem okR_some {t : Nat} : okR fr (some t) = isReg (fr t) := rfl
@[go_sem] theorem isReg_loc {cs : List Value} : isReg (.loc cs) = true := rfl
@[go_sem] theorem isReg_skip : isReg .skip = true := rfl
@[go_sem] theorem isReg_lp {s o : Nat} : isReg (.lp s o) = true := rfl
@[go_sem] theorem okS_skip {rg : List Nat} {ls : Bool} {t : Nat} : okS rg ls t .skip = true := rfl
@[go_sem] theorem okS_loc' {rg : List Nat} {ls : Bool} {t : Nat} {cs : List Value} : okS rg ls t (.loc cs) = rg.contains t := rfl
@[go_sem] theorem okS_lp' {rg : List Nat} {ls : Bool} {t s o : Nat} : okS rg ls t (.lp s o) = rg.contains s := rfl
@[go_sem] theorem okS_ls {cs : List Value} {rg : List Nat} {ls : Bool} {t a b : Nat} : okS rg ls t (.ls a b cs) = ls := rfl
def notJ : Value → Bool
  | .tuple a => !a.toList.isEmpty
  | _ => true
@[go_sem] theorem okS_v {rg : List Nat} {ls : Bool} {t : Nat} {x : Value} : okS rg ls t (.v x) = notJ x := by cases x <;> rfl
@[go_sem] theorem notJ_int {j : IntKind} {n : Int} : notJ (.int j n) = true := rfl
@[go_sem] theorem notJ_bool {b : Bool} : notJ (.bool b) = true := rfl
@[go_sem] theorem notJ_str {b : ByteArray} : notJ (.string b) = true := rfl
@[go_sem] theorem notJ_slice {p : Option Addr} {n c : Nat} : notJ (.slice p n c) = true := rfl
@[go_sem] theorem notJ_ptr {p : Option Addr} : notJ (.pointer p) = true := rfl
@[go_sem] theorem notJ_agg {a : Array Value} : notJ (.agg a) = true := rfl
@[go_sem] theorem notJ_func {f : Fn} {a b : Array Value} : notJ (.func f a b) = true := rfl
@[go_sem] theorem notJ_tuple {x : Value} {l : List Value} : notJ (.tuple (x :: l).toArray) = true := rfl
theorem notJ_solid {x : Value} (h : solid x = true) : notJ x = true := by cases x <;> first | rfl | cases h
@[go_sem] theorem ext_refl : Ext H H = True := eq_true (.refl H)
theorem ext_push {b : Blk} (hw : WFH H) : Ext H (H.push b) := ⟨Nat.le_succ _, fun id k hk => by
  have := hw id k hk
  simp only [AH.push]
  rw [if_neg (by omega)]; exact hk⟩
attribute [congr] awo_congr awd_congr awge_congr

@[go_sem] theorem okc_int {j : IntKind} {n : Int} : okConst (.int j n) = true := rfl
@[go_sem] theorem okc_bool {b : Bool} : okConst (.bool b) = true := rfl
@[go_sem] theorem okc_str {b : ByteArray} : okConst (.string b) = true := rfl
@[go_sem] theorem okc_nil : okConst (.slice none 0 0) = true := rfl
@[go_sem] theorem okc_ptr : okConst (.pointer none) = true := rfl
@[go_sem] theorem okc_func : okConst .nilFunc = true := rfl
@[go_sem] theorem okc_iface : okConst .nilIface = true := rfl
@[go_sem] theorem sol_int {j : IntKind} {n : Int} : solid (.int j n) = true := rfl
@[go_sem] theorem sol_bool {b : Bool} : solid (.bool b) = true := rfl
@[go_sem] theorem sol_str {b : ByteArray} : solid (.string b) = true := rfl
@[go_sem] theorem sol_slice {p : Option Addr} {n c : Nat} : solid (.slice p n c) = true := rfl
@[go_sem] theorem sol_ptr {p : Option Addr} : solid (.pointer p) = true := rfl
@[go_sem] theorem sol_func {f : Fn} {a b : Array Value} : solid (.func f a b) = true := rfl
@[go_sem] theorem putAt_nil {cs : List Value} {o : Nat} : putAt cs o [] = some cs := by cases cs <;> rfl
@[go_sem] theorem putAt_0 {c x : Value} {cs xs : List Value} : putAt (c :: cs) 0 (x :: xs) = (putAt cs 0 xs).map (x :: ·) := rfl
@[go_sem] theorem putAt_s {c x : Value} {cs xs : List Value} {n : Nat} : putAt (c :: cs) (n + 1) (x :: xs) = (putAt cs n (x :: xs)).map (c :: ·) := rfl

-- slices as lists of elements
/-- A slice whose elements, of 'es' cells each, hold 'ess'. -/
def Sl (H : AH) (v : Value) (es : Nat) (ess : List (List Value)) : Prop :=
  ∃ p c, v = .slice p ess.length c ∧ (∀ e, e ∈ ess → e.length = es) ∧
    ((p = none ∧ ess = [] ∧ c = 0) ∨ ∃ id off, p = some ⟨id, off, some es⟩ ∧ ess.length ≤ c ∧ (ess = [] ∨ ∃ b rest, H.b id = some b ∧ b.cells.drop off = ess.flatten ++ rest))
theorem Sl.ext {H H' : AH} {v : Value} {es : Nat} {ess : List (List Value)} (h : Sl H v es ess) (he : Ext H H') : Sl H' v es ess := by
  obtain ⟨p, c, h1, h2, h3⟩ := h
  refine ⟨p, c, h1, h2, ?_⟩
  rcases h3 with h3 | ⟨id, off, h3, h4, h5⟩
  · exact .inl h3
  · refine .inr ⟨id, off, h3, h4, ?_⟩
    rcases h5 with h5 | ⟨b, rest, h5, h6⟩
    · exact .inl h5
    · exact .inr ⟨b, rest, he.2 id b h5, h6⟩
/-- Where an element's part lies. -/
def elp (p : Option Addr) (es : Nat) (j : Int) (o : Nat) : Value :=
  match p with
  | some ⟨id, off, _⟩ => .pointer (some ⟨id, off + j.toNat * es + o, none⟩)
  | none => .pointer none
/-- How many cells an element of a slice of a type has. -/
def esz (P : Program) (t : TypeId) : Option Nat := (elemTy P t).bind fun e => (tsz P e).map fun z => z.2.1
theorem esz_spec {t : TypeId} {es : Nat} (h : esz P t = some es) : ∃ e g r, elemTy P t = some e ∧ tsz P e = some (g, es, r) := by
  unfold esz at h
  cases he : elemTy P t with
  | none => rw [he] at h; cases h
  | some e =>
    rw [he] at h
    simp only [Option.bind_some] at h
    cases hz : tsz P e with
    | none => rw [hz] at h; cases h
    | some z =>
      rw [hz] at h
      obtain ⟨g, es', r⟩ := z
      simp only [Option.map_some, Option.some.injEq] at h
      subst h
      exact ⟨e, g, r, rfl, hz⟩
theorem ix_el {t : TypeId} {p : Option Addr} {n c es : Nat} {ess : List (List Value)} {q : IntKind} {j : Int} (hs : Sl H (.slice p n c) es ess) (he : esz P t = some es) (h : InB j n) :
    ixF P t (some (.v (.slice p n c))) (some (.int q j)) = some (.v (elp p es j 0)) := by
  obtain ⟨e, g, r, he, hz⟩ := esz_spec he
  obtain ⟨p', c', h1, h2, h3⟩ := hs
  cases h1
  rcases h3 with ⟨rfl, rfl, rfl⟩ | ⟨id, off, rfl, _⟩
  · have := h.1; have := h.2; simp at *; omega
  · exact ixF_slice he hz h
@[go_sem] theorem adF_elp {o s es o' : Nat} {p : Option Addr} {j : Int} (h : p ≠ none) : adF (some (o, s)) (some (.v (elp p es j o'))) = some (.v (elp p es j (o' + o))) := by
  cases p with
  | none => exact absurd rfl h
  | some p => obtain ⟨id, off, sp⟩ := p; simp only [elp, adF]; rw [Nat.add_assoc]
@[go_sem] theorem notJ_elp {p : Option Addr} {es o : Nat} {j : Int} : notJ (elp p es j o) = true := by unfold elp; split <;> rfl

theorem drop_flatten {es : Nat} : ∀ {ess : List (List Value)} (_ : ∀ e, e ∈ ess → e.length = es) (i : Nat), ess.flatten.drop (i * es) = (ess.drop i).flatten := by
  intro ess
  induction ess with
  | nil => intro _ i; simp
  | cons a l ih =>
    intro h i
    cases i with
    | zero => simp
    | succ i =>
      have ha := h a (List.mem_cons_self ..)
      rw [List.flatten_cons, Nat.succ_mul, Nat.add_comm, List.drop_append, List.drop_eq_nil_of_le (by omega), List.nil_append, List.drop_succ_cons,
        ← ih (fun e he => h e (List.mem_cons_of_mem _ he))]
      congr 1; omega
theorem len_flatten {es : Nat} : ∀ {ess : List (List Value)} (_ : ∀ e, e ∈ ess → e.length = es), ess.flatten.length = ess.length * es := by
  intro ess
  induction ess with
  | nil => intro _; simp
  | cons a l ih =>
    intro h
    rw [List.flatten_cons, List.length_append, h a (List.mem_cons_self ..), ih (fun e he => h e (List.mem_cons_of_mem _ he)), List.length_cons, Nat.succ_mul]; omega

/-- What lies at an element's part. -/
theorem ld_el {p : Option Addr} {n c es : Nat} {ess : List (List Value)} {j : Int} {o : Nat} (hs : Sl H (.slice p n c) es ess) (h : InB j n) : ∃ rest, ldA fr H (some (.v (elp p es j o))) = some (((ess.getD j.toNat []) ++ rest).drop o) := by
  obtain ⟨p', c', h1, h2, h3⟩ := hs
  cases h1
  obtain ⟨h4, h5⟩ := h
  have hj : j.toNat < ess.length := by omega
  rcases h3 with ⟨rfl, rfl, rfl⟩ | ⟨id, off, rfl, h6, h7⟩
  · simp at hj
  · rcases h7 with rfl | ⟨b, rest, hb, hd⟩
    · simp at hj
    · refine ⟨(ess.drop (j.toNat + 1)).flatten ++ rest, ?_⟩
      show H.load id (off + j.toNat * es + o) = _
      simp only [AH.load, hb, Option.map_some]
      congr 1
      rw [← List.drop_drop, ← List.drop_drop, hd, List.drop_append, drop_flatten h2, List.drop_eq_getElem_cons hj, List.flatten_cons]
      have e1 : j.toNat * es - ess.flatten.length = 0 := by
        rw [len_flatten h2]
        have := Nat.mul_le_mul_right es (Nat.le_of_lt hj)
        omega
      rw [e1, List.drop_zero, List.append_assoc]
      simp [List.getD, hj]
theorem el_len {p : Option Addr} {n c es : Nat} {ess : List (List Value)} {j : Int} (hs : Sl H (.slice p n c) es ess) (h : InB j n) : (ess.getD j.toNat []).length = es := by
  obtain ⟨p', c', h1, h2, h3⟩ := hs
  cases h1
  obtain ⟨h4, h5⟩ := h
  have hj : j.toNat < ess.length := by omega
  simp only [List.getD, List.getElem?_eq_getElem hj, Option.getD_some]
  exact h2 _ (List.getElem_mem hj)
theorem takeN_app : ∀ {l : List Value} {n : Nat} {r : List Value}, l.length = n → takeN n (l ++ r) = some l := by
  intro l
  induction l with
  | nil => intro n r h; subst h; rfl
  | cons a l ih => intro n r h; subst h; simp [takeN, ih rfl]
theorem ldA_el {p : Option Addr} {n c es : Nat} {ess : List (List Value)} {j : Int} {r : Nat × List Value} (hs : Sl H (.slice p n c) es ess) (h : InB j n) : ldT (some (true, es, r)) (ldA fr H (some (.v (elp p es j 0)))) = some (.agg (ess.getD j.toNat []).toArray) := by
  obtain ⟨rest, e⟩ := ld_el (fr := fr) (o := 0) hs h
  rw [e]
  simp only [ldT, List.drop_zero, takeN_app (el_len hs h), Option.map_some]
theorem ldA_fl {p : Option Addr} {n c es : Nat} {ess : List (List Value)} {j : Int} {o sz : Nat} {r : Nat × List Value} (hs : Sl H (.slice p n c) es ess) (h : InB j n) (ho : o < es) : ldT (some (false, sz, r)) (ldA fr H (some (.v (elp p es j o)))) = (ess.getD j.toNat [])[o]? := by
  obtain ⟨rest, e⟩ := ld_el (fr := fr) (o := o) hs h
  have hl := el_len hs h
  rw [e, List.drop_append, show o - (ess.getD j.toNat []).length = 0 by omega, List.drop_zero]
  have hlt : o < (ess.getD j.toNat []).length := by omega
  rw [List.drop_eq_getElem_cons hlt]
  simp only [List.cons_append, ldT]
  exact (List.getElem?_eq_getElem hlt).symm
theorem Sl.ne {p : Option Addr} {n c es : Nat} {ess : List (List Value)} {j : Int} (hs : Sl H (.slice p n c) es ess) (h : InB j n) : p ≠ none := by
  obtain ⟨p', c', h1, h2, h3⟩ := hs
  cases h1
  rcases h3 with ⟨rfl, rfl, rfl⟩ | ⟨id, off, rfl, _⟩
  · have := h.1; have := h.2; simp at *; omega
  · simp
/-- A slice is of this form. -/
theorem Sl.form {v : Value} {es : Nat} {ess : List (List Value)} (hs : Sl H v es ess) : ∃ p c, v = .slice p ess.length c := let ⟨p, c, h, _⟩ := hs; ⟨p, c, h⟩

/-- A slice of integers. -/
def Ints (H : AH) (v : Value) (xs : List Int) : Prop := Sl H v 1 (xs.map fun x => [.int .i64 x])
theorem Ints.ext {H H' : AH} {v : Value} {xs : List Int} (h : Ints H v xs) (he : Ext H H') : Ints H' v xs := Sl.ext h he
theorem Ints.form {v : Value} {xs : List Int} (h : Ints H v xs) : ∃ p c, v = .slice p xs.length c := by
  obtain ⟨p, c, h⟩ := Sl.form h
  exact ⟨p, c, by simpa using h⟩
theorem ld_int {p : Option Addr} {n c : Nat} {xs : List Int} {j : Int} {sz : Nat} {r : Nat × List Value} (hs : Ints H (.slice p n c) xs) (h : InB j n) : ldT (some (false, sz, r)) (ldA fr H (some (.v (elp p 1 j 0)))) = some (.int .i64 (xs.getD j.toNat 0)) := by
  rw [ldA_fl hs h (by omega)]
  have hj : j.toNat < xs.length := by
    obtain ⟨p', c', h1, _⟩ := hs
    simp at h1
    have := h.1; have := h.2; omega
  simp [List.getD, hj]
theorem ix_int {t : TypeId} {p : Option Addr} {n c : Nat} {xs : List Int} {q : IntKind} {j : Int} (hs : Ints H (.slice p n c) xs) (he : esz P t = some 1) (h : InB j n) :
    ixF P t (some (.v (.slice p n c))) (some (.int q j)) = some (.v (elp p 1 j 0)) := ix_el hs he h

/-- A call that changes nothing and returns one value. -/
theorem acallk_pure {g : FuncId} {args : List Value} {d : Tmp} {u : Value} (hd : d < nt) (h : ACalls P g args H fun r H' => r = u ∧ H' = H) (hk : aw P nt k Q (fr.put d (.v u)) H) : acallk P nt g args (some d) k Q fr H :=
  acallk_mono hd h fun _ _ ⟨h1, h2⟩ => by subst h1; subst h2; exact hk

theorem acallk_congr {g : FuncId} {args args' : List Value} {d : Option Tmp} (h : args = args') : acallk P nt g args d k Q fr H = acallk P nt g args' d k Q fr H := by rw [h]
theorem putH_congr {id off id' off' : Nat} {xs xs' : List Value} (h1 : id = id') (h2 : off = off') (h3 : xs = xs') : putH id off xs P nt k Q fr H = putH id' off' xs' P nt k Q fr H := by rw [h1, h2, h3]
theorem round_congr {σ : Type} {shape : σ → List (Nat × FV)} {I : σ → AH → Prop} {meas : σ → AH → Nat} {n : Nat} {H' : AH} (h : H = H') : Round shape I meas n fr H = Round shape I meas n fr H' := by rw [h]
attribute [congr] acallk_congr putH_congr round_congr

-- results
def aendr (x : Option (List Value)) (R : Value → AH → Prop) (H : AH) : Prop :=
  match x with
  | some vs => R (resT vs) H
  | none => False
@[go_sem ↓] theorem aend_ret {rs : Array ResultVar} {R : Value → AH → Prop} : aend P rs R .ret fr H = aendr (resL P fr rs.toList) R H := rfl
@[go_sem ↓] theorem aend_normal {rs : Array ResultVar} {R : Value → AH → Prop} : aend P rs R .normal fr H = aendr (resL P fr rs.toList) R H := rfl
theorem aendr_congr {x x' : Option (List Value)} {R : Value → AH → Prop} (h : x = x') : aendr x R H = aendr x' R H := by rw [h]
@[go_sem ↓] theorem aendr_some {vs : List Value} {R : Value → AH → Prop} : aendr (some vs) R H = R (resT vs) H := rfl
@[go_sem] theorem resL_nil : resL P fr [] = some [] := rfl
@[go_sem] theorem resL_cons {x : ResultVar} {xs : List ResultVar} : resL P fr (x :: xs) = consO (resV P fr x) (resL P fr xs) := by
  simp only [resL, consO]
  cases resV P fr x <;> cases resL P fr xs <;> rfl
@[go_sem] theorem resV_tmp {t : Tmp} : resV P fr (.tmp t) = rdt (fr t) := by simp only [resV]; unfold rdt; split <;> simp_all
@[go_sem] theorem resV_cell {t : Tmp} {ty : TypeId} : resV P fr (.cell t ty) = ldT (tsz P ty) (ldL 0 (fr t)) := by
  simp only [resV]; unfold ldL
  cases fr t with
  | loc cs => simp only [List.drop_zero]; rfl
  | _ =>
    simp only [ldT]
    cases tsz P ty with
    | none => rfl
    | some z => obtain ⟨g, a, b⟩ := z; cases g <;> rfl
@[go_sem] theorem resT_one {v : Value} : resT [v] = v := rfl
@[go_sem] theorem resT_none : resT [] = .tuple #[] := rfl
@[go_sem] theorem resT_two {u v : Value} {l : List Value} : resT (u :: v :: l) = .tuple (u :: v :: l).toArray := rfl
attribute [congr] aendr_congr

/-- A contract, from a function's body. -/
theorem acalls_body {f : FuncId} {fn : Func} {code : Code} {args : List Value} {R : Value → AH → Prop} {nt : Nat} {rs : Array ResultVar} (hc : Callable P f) (hf : P.funcs[f]? = some fn) (hb : fn.body = some code) (hnt : fn.ntmps = nt) (hr : fn.results = rs) (hlen : args.length ≤ nt)
    (h : WFH H → aw P nt [.code code] (aend P rs R) (FR.init args) H) : ACalls P f args H R := by
  subst hr
  exact acalls_intro hc hf hb hnt hlen h

-- make
def awmk (P : Program) (nt : Nat) (t : TypeId) (l c : Option Value) (d : Option Tmp) (k : List It) (Q : Exit → FR → AH → Prop) (fr : FR) (H : AH) : Prop :=
  match elemTy P t, l, c with
  | some e, some (.int .i64 n), some (.int .i64 c) => match tsz P e with
    | some (_, es, by_, z) => if 0 ≤ n ∧ n ≤ c ∧ by_ * c ≤ 140737488355328 ∧ c ≤ 4611686018427387904 ∧ z.length = es ∧ es ≠ 0 ∧ z.all okConst = true then
        putO nt (aw P nt k Q) d (.v (.slice (some ⟨H.n, 0, some es⟩) n.toNat c.toNat)) fr (H.push ⟨true, (List.replicate c.toNat z).flatten⟩)
      else False
    | none => False
  | _, _, _ => False
@[go_sem ↓] theorem aw1_makeSlice {t : TypeId} {l c : Operand} {d : Option Tmp} : aw1 P nt (.makeSlice t l c) d k Q fr H = awmk P nt t (rdv fr l) (rdv fr c) d k Q fr H := rfl
theorem awmk_congr {t : TypeId} {l l' c c' : Option Value} {d : Option Tmp} (h : l = l') (hc : c = c') : awmk P nt t l c d k Q fr H = awmk P nt t l' c' d k Q fr H := by rw [h, hc]
/-- Of the element type: its cells, its bytes, its zero value's cells. -/
def ezz (P : Program) (t : TypeId) : Option (Nat × Nat × List Value) := (elemTy P t).bind fun e => (tsz P e).map fun z => z.2
theorem ezz_spec {t : TypeId} {x : Nat × Nat × List Value} (h : ezz P t = some x) : ∃ e g, elemTy P t = some e ∧ tsz P e = some (g, x) := by
  unfold ezz at h
  cases he : elemTy P t with
  | none => rw [he] at h; cases h
  | some e =>
    rw [he] at h
    simp only [Option.bind_some] at h
    cases hz : tsz P e with
    | none => rw [hz] at h; cases h
    | some z =>
      rw [hz] at h
      obtain ⟨g, x'⟩ := z
      simp only [Option.map_some, Option.some.injEq] at h
      subst h
      exact ⟨e, g, rfl, hz⟩
theorem awmk_some {t : TypeId} {n c es b : Nat} {z : List Value} {d : Tmp} (he : ezz P t = some (es, b, z)) (hd : d < nt) (hn : n ≤ c) (hb : b * c ≤ 140737488355328) (hc : c ≤ 4611686018427387904) (h1 : z.length = es) (h2 : es ≠ 0) (h3 : z.all okConst = true)
    (h : aw P nt k Q (fr.put d (.v (.slice (some ⟨H.n, 0, some es⟩) n c))) (H.push ⟨true, (List.replicate c z).flatten⟩)) : awmk P nt t (some (.int .i64 n)) (some (.int .i64 c)) (some d) k Q fr H := by
  obtain ⟨e, g, e1, e2⟩ := ezz_spec he
  simp only [awmk, e1, e2]
  rw [if_pos ⟨by omega, by omega, by rw [← Int.natCast_mul]; omega, by omega, h1, h2, h3⟩]
  · simp only [putO, if_pos hd]
    exact h
attribute [congr] awmk_congr

-- writing
theorem ix_raw {t : TypeId} {id off es n c : Nat} {q : IntKind} {j : Int} (he : esz P t = some es) (h : InB j n) :
    ixF P t (some (.v (.slice (some ⟨id, off, some es⟩) n c))) (some (.int q j)) = some (.v (.pointer (some ⟨id, off + j.toNat * es, none⟩))) := by
  obtain ⟨e, g, r, he, hz⟩ := esz_spec he
  exact ixF_slice he hz h
theorem putH_some {id off : Nat} {xs cells cs : List Value} (hb : H.b id = some ⟨true, cells⟩) (hp : putAt cells off xs = some cs) : putH id off xs P nt k Q fr H = aw P nt k Q fr (H.set id (some ⟨true, cs⟩)) := by
  simp only [putH, hb, hp, if_true]
theorem push_same {b : Blk} : (H.push b).b H.n = some b := by simp [AH.push]
theorem push_n {b : Blk} : (H.push b).n = H.n + 1 := rfl
theorem push_set {b b' : Blk} : (H.push b).set H.n (some b') = H.push b' := by
  simp only [AH.push, AH.set, AH.mk.injEq, true_and]
  funext i
  by_cases h : i = H.n <;> simp [h]
theorem wf_push {b : Blk} (h : WFH H) : WFH (H.push b) := by
  intro id k hk
  simp only [AH.push] at hk ⊢
  split at hk
  · omega
  · have := h id k hk; omega
theorem putAt_one {v : Value} : ∀ {cs : List Value} {i : Nat} (_ : i < cs.length), putAt cs i [v] = some (cs.set i v) := by
  intro cs
  induction cs with
  | nil => intro i h; simp at h
  | cons c cs ih =>
    intro i h
    cases i with
    | zero => cases cs <;> rfl
    | succ i => simp only [putAt, ih (by simpa using h), Option.map_some, List.set_cons_succ]
theorem putAt_full : ∀ {xs cs r : List Value} (_ : xs.length = cs.length), putAt (cs ++ r) 0 xs = some (xs ++ r) := by
  intro xs
  induction xs with
  | nil => intro cs r h; have := List.eq_nil_of_length_eq_zero h.symm; subst this; cases r <;> rfl
  | cons x xs ih =>
    intro cs r h
    cases cs with
    | nil => simp at h
    | cons c cs => simp only [List.cons_append, putAt, ih (by simpa using h), Option.map_some]
theorem putAt_skip : ∀ {a cs xs : List Value} {o : Nat} (_ : xs ≠ []), putAt (a ++ cs) (a.length + o) xs = (putAt cs o xs).map (a ++ ·) := by
  intro a
  induction a with
  | nil => intro cs xs o _; simp
  | cons x a ih =>
    intro cs xs o h
    cases xs with
    | nil => exact absurd rfl h
    | cons y ys =>
      have : (x :: a).length + o = (a.length + o) + 1 := by simp; omega
      rw [this]
      simp only [List.cons_append, putAt]
      rw [ih h]
      cases putAt cs o (y :: ys) <;> rfl
/-- An element is written. -/
theorem putAt_flat {es : Nat} {ess : List (List Value)} {i : Nat} {xs r : List Value} (hl : ∀ e, e ∈ ess → e.length = es) (hi : i < ess.length) (hx : xs.length = es) (h0 : xs ≠ []) :
    putAt (ess.flatten ++ r) (i * es) xs = some ((ess.set i xs).flatten ++ r) := by
  have e1 : ess = ess.take i ++ ess[i] :: ess.drop (i + 1) := by rw [← List.drop_eq_getElem_cons hi, List.take_append_drop]
  have e2 : ess.set i xs = ess.take i ++ xs :: ess.drop (i + 1) := by
    rw [List.set_eq_take_append_cons_drop, if_pos hi]
  have e3 : ((ess.take i).flatten).length = i * es := by
    rw [len_flatten (es := es) (fun e he => hl e (List.mem_of_mem_take he)), List.length_take, Nat.min_eq_left (Nat.le_of_lt hi)]
  rw [e2]
  conv => lhs; rw [e1]
  rw [List.flatten_append, List.flatten_append, List.flatten_cons, List.flatten_cons, List.append_assoc, List.append_assoc, List.append_assoc, ← e3]
  have := putAt_skip (a := (ess.take i).flatten) (cs := ess[i] ++ ((ess.drop (i + 1)).flatten ++ r)) (o := 0) h0
  simp only [Nat.add_zero] at this
  rw [this, putAt_full (by rw [hx]; exact (hl _ (List.getElem_mem hi)).symm), Option.map_some, List.append_assoc]
end
end Go.Am
