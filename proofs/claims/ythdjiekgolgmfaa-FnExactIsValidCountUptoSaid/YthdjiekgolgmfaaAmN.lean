/-
  The abstract machine, part N: the laws by which the machine is run by hand.
  No condition.
-/
import Derived.Test.YthdjiekgolgmfaaAmM
namespace Go.Am

section
variable {P : Program} {nt : Nat} {k : List It} {Q : Exit → FR → AH → Prop} {fr : FR} {H : AH}

theorem aw_congr {H' : AH} (h : H = H') : aw P nt k Q fr H = aw P nt k Q fr H' := by rw [h]

@[go_sem ↓] theorem aw_nil : aw P nt [] Q fr H = Q .normal fr H := rfl
@[go_sem ↓] theorem aw_blk {i : Nat} : aw P nt (.blk i :: k) Q fr H = aw P nt k Q fr H := rfl
@[go_sem ↓] theorem aw_skip : aw P nt (.code .skip :: k) Q fr H = aw P nt k Q fr H := rfl
@[go_sem ↓] theorem aw_seq {x y : Code} : aw P nt (.code (.seq x y) :: k) Q fr H = aw P nt (.code x :: .code y :: k) Q fr H := by
  show awp P nt x (athen (awp P nt y (kont P nt k Q)) (kont P nt k Q)) fr H = awp P nt x (kont P nt (.code y :: k) Q) fr H
  congr 1
  funext e
  cases e <;> rfl
@[go_sem ↓] theorem aw_block {id : Nat} {b : Code} : aw P nt (.code (.block id b) :: k) Q fr H = aw P nt (.code b :: .blk id :: k) Q fr H := by
  show awp P nt b (ablock id (kont P nt k Q)) fr H = awp P nt b (kont P nt (.blk id :: k) Q) fr H
  congr 1
  funext e
  cases e <;> try rfl
  funext fr H
  simp only [ablock, kont]
  split <;> rfl
theorem kont_ret : kont P nt k Q .ret = Q .ret := by
  induction k with
  | nil => rfl
  | cons it k ih => exact ih
@[go_sem ↓] theorem aw_ret : aw P nt (.code .ret :: k) Q fr H = Q .ret fr H := by
  show kont P nt k Q .ret fr H = _
  rw [kont_ret]
def awx (P : Program) (nt id : Nat) (k : List It) (Q : Exit → FR → AH → Prop) (fr : FR) (H : AH) : Prop := kont P nt k Q (.exit id) fr H
@[go_sem ↓] theorem aw_exit {id : Nat} : aw P nt (.code (.exit id) :: k) Q fr H = awx P nt id k Q fr H := rfl
@[go_sem ↓] theorem awx_nil {id : Nat} : awx P nt id [] Q fr H = Q (.exit id) fr H := rfl
@[go_sem ↓] theorem awx_code {id : Nat} {c : Code} : awx P nt id (.code c :: k) Q fr H = awx P nt id k Q fr H := rfl
@[go_sem ↓] theorem awx_ops {id : Nat} {pre : List (Option Tmp)} {l : List Oper} : awx P nt id (.ops pre l :: k) Q fr H = awx P nt id k Q fr H := rfl
@[go_sem ↓] theorem awx_dops {id : Nat} {pre : List (Option Tmp)} {l : List (DE × Oper)} : awx P nt id (.dops pre l :: k) Q fr H = awx P nt id k Q fr H := rfl
@[go_sem ↓] theorem awx_chk {id : Nat} {p : AH → Prop} : awx P nt id (.chk p :: k) Q fr H = awx P nt id k Q fr H := rfl
@[go_sem ↓] theorem awx_blk {id i : Nat} : awx P nt id (.blk i :: k) Q fr H = if id = i then aw P nt k Q fr H else awx P nt id k Q fr H := by
  show (kont P nt (.blk i :: k) Q (.exit id)) fr H = _
  simp only [kont]
  split <;> rfl

def awc (P : Program) (nt : Nat) (b : Option Value) (t e : Code) (k : List It) (Q : Exit → FR → AH → Prop) (fr : FR) (H : AH) : Prop :=
  match b with
  | some (.bool b) => if b = true then aw P nt (.code t :: k) Q fr H else aw P nt (.code e :: k) Q fr H
  | _ => False
@[go_sem ↓] theorem aw_cond {c : Operand} {t e : Code} : aw P nt (.code (.cond c t e) :: k) Q fr H = awc P nt (rdv fr c) t e k Q fr H := by
  show awp P nt (.cond c t e) (kont P nt k Q) fr H = _
  unfold awc
  rfl
@[go_sem ↓] theorem awc_true {t e : Code} : awc P nt (some (.bool true)) t e k Q fr H = aw P nt (.code t :: k) Q fr H := by simp [awc]
@[go_sem ↓] theorem awc_false {t e : Code} : awc P nt (some (.bool false)) t e k Q fr H = aw P nt (.code e :: k) Q fr H := by simp [awc]
theorem awc_split {b : Bool} {t e : Code} (ht : b = true → aw P nt (.code t :: k) Q fr H) (he : b = false → aw P nt (.code e :: k) Q fr H) : awc P nt (some (.bool b)) t e k Q fr H := by
  cases b
  · rw [awc_false]; exact he rfl
  · rw [awc_true]; exact ht rfl
theorem awc_congr {b b' : Option Value} {t e : Code} (h : b = b') : awc P nt b t e k Q fr H = awc P nt b' t e k Q fr H := by rw [h]

@[go_sem ↓] theorem aw_region {id : Nat} {ops : List Oper} : aw P nt (.code (.region id ops.toArray false) :: k) Q fr H = aw P nt (.ops (ops.map (·.dst)) ops :: k) Q fr H := rfl
@[go_sem ↓] theorem aw_ops_nil {pre : List (Option Tmp)} : aw P nt (.ops pre [] :: k) Q fr H = aw P nt k Q fr H := rfl

/-- One operation, then what follows. -/
def aw1 (P : Program) (nt : Nat) (op : Op) (d : Option Tmp) (k : List It) (Q : Exit → FR → AH → Prop) (fr : FR) (H : AH) : Prop := aop P nt ⟨d, op, 0, "", #[], none⟩ (aw P nt k Q) fr H
theorem aop_at {o o' : Oper} {K : FR → AH → Prop} (h : o.op = o'.op) (hd : o.dst = o'.dst) : aop P nt o K fr H = aop P nt o' K fr H := by
  obtain ⟨d, op, ty, ps, af, g⟩ := o
  obtain ⟨d', op', ty', ps', af', g'⟩ := o'
  simp only at h hd
  subst h; subst hd
  rfl
@[go_sem ↓] theorem aw_op {pre : List (Option Tmp)} {d : Option Tmp} {op : Op} {ty : TypeId} {ps : String} {af : Array Edge} {l : List Oper} :
    aw P nt (.ops pre (⟨d, op, ty, ps, af, none⟩ :: l) :: k) Q fr H = aw1 P nt op d (.ops pre l :: k) Q fr H := by
  show gop P nt pre ⟨d, op, ty, ps, af, none⟩ (aw P nt (.ops pre l :: k) Q) fr H = _
  simp only [gop]
  exact aop_at rfl rfl
def awg (P : Program) (nt : Nat) (y : Option (Option Bool)) (b : Bool) (op : Op) (d : Option Tmp) (k : List It) (Q : Exit → FR → AH → Prop) (fr : FR) (H : AH) : Prop :=
  match y with
  | some y => if y = some b then aw1 P nt op d k Q fr H else putO nt (aw P nt k Q) d .skip fr H
  | none => False
def yv : FV → Option (Option Bool)
  | .v (.bool b) => some (some b)
  | .skip => some none
  | _ => none
def yj (fr : FR) : Option (Option Tmp) → Option (Option Bool)
  | some (some d) => yv (fr d)
  | _ => none
@[go_sem ↓] theorem aw_gop {pre : List (Option Tmp)} {d : Option Tmp} {op : Op} {ty : TypeId} {ps : String} {af : Array Edge} {j : Nat} {b : Bool} {l : List Oper} :
    aw P nt (.ops pre (⟨d, op, ty, ps, af, some (j, b)⟩ :: l) :: k) Q fr H = awg P nt (yj fr pre[j]?) b op d (.ops pre l :: k) Q fr H := by
  show gop P nt pre ⟨d, op, ty, ps, af, some (j, b)⟩ (aw P nt (.ops pre l :: k) Q) fr H = _
  have e : yieldA fr pre j = yj fr pre[j]? := by
    unfold yieldA yj yv
    split
    · rename_i d' h; rw [h]
      simp only
      split <;> simp_all
    · rename_i h
      split
      · rename_i d' h'; exact absurd h' (h d')
      · rfl
  simp only [gop, e]
  unfold awg
  cases yj fr pre[j]? <;> rfl
theorem awg_congr {y y' : Option (Option Bool)} {b : Bool} {op : Op} {d : Option Tmp} (h : y = y') : awg P nt y b op d k Q fr H = awg P nt y' b op d k Q fr H := by rw [h]
@[go_sem] theorem yj_some {d : Tmp} : yj fr (some (some d)) = yv (fr d) := rfl
@[go_sem] theorem yv_bool {b : Bool} : yv (.v (.bool b)) = some (some b) := rfl
@[go_sem] theorem yv_skip : yv .skip = some none := rfl
@[go_sem ↓] theorem awg_tt {op : Op} {d : Option Tmp} : awg P nt (some (some true)) true op d k Q fr H = aw1 P nt op d k Q fr H := by simp [awg]
@[go_sem ↓] theorem awg_ff {op : Op} {d : Option Tmp} : awg P nt (some (some false)) false op d k Q fr H = aw1 P nt op d k Q fr H := by simp [awg]
@[go_sem ↓] theorem awg_tf {op : Op} {d : Tmp} (h : d < nt) : awg P nt (some (some true)) false op (some d) k Q fr H = aw P nt k Q (fr.put d .skip) H := by simp [awg, putO, h]
@[go_sem ↓] theorem awg_ft {op : Op} {d : Tmp} (h : d < nt) : awg P nt (some (some false)) true op (some d) k Q fr H = aw P nt k Q (fr.put d .skip) H := by simp [awg, putO, h]
@[go_sem ↓] theorem awg_n {b : Bool} {op : Op} {d : Tmp} (h : d < nt) : awg P nt (some none) b op (some d) k Q fr H = aw P nt k Q (fr.put d .skip) H := by simp [awg, putO, h]
theorem awg_split {y b : Bool} {op : Op} {d : Tmp} (hd : d < nt) (h1 : y = b → aw1 P nt op (some d) k Q fr H) (h2 : y = !b → aw P nt k Q (fr.put d .skip) H) : awg P nt (some (some y)) b op (some d) k Q fr H := by
  unfold awg
  simp only
  split
  · rename_i h; exact h1 (by simpa using h)
  · rename_i h
    simp only [putO, if_pos hd]
    refine h2 ?_
    cases y <;> cases b <;> simp_all

/-- A value for a slot. -/
def awv (P : Program) (nt : Nat) (x : Option Value) (d : Option Tmp) (k : List It) (Q : Exit → FR → AH → Prop) (fr : FR) (H : AH) : Prop :=
  match x with
  | some x => putO nt (aw P nt k Q) d (.v x) fr H
  | none => False
theorem awv_congr {x x' : Option Value} {d : Option Tmp} (h : x = x') : awv P nt x d k Q fr H = awv P nt x' d k Q fr H := by rw [h]
@[go_sem ↓] theorem awv_some {x : Value} {d : Tmp} (h : d < nt) : awv P nt (some x) (some d) k Q fr H = aw P nt k Q (fr.put d (.v x)) H := by simp [awv, putO, h]
@[go_sem ↓] theorem awv_none {x : Value} : awv P nt (some x) none k Q fr H = aw P nt k Q fr H := by simp [awv, putO]
def awf (P : Program) (nt : Nat) (x : Option FV) (d : Option Tmp) (k : List It) (Q : Exit → FR → AH → Prop) (fr : FR) (H : AH) : Prop :=
  match x with
  | some x => putO nt (aw P nt k Q) d x fr H
  | none => False
theorem awf_congr {x x' : Option FV} {d : Option Tmp} (h : x = x') : awf P nt x d k Q fr H = awf P nt x' d k Q fr H := by rw [h]
@[go_sem ↓] theorem awf_some {x : FV} {d : Tmp} (h : d < nt) : awf P nt (some x) (some d) k Q fr H = aw P nt k Q (fr.put d x) H := by simp [awf, putO, h]

-- lookups
@[go_sem] theorem put_app {d t : Nat} {x : FV} : FR.put fr d x t = if t = d then x else fr t := rfl
@[go_sem] theorem putLoc_app {d t : Nat} {cs : List Value} : FR.putLoc fr d cs t = if t = d then .loc cs else killv d (fr t) := rfl
@[go_sem] theorem killv_vv {d : Nat} {x : Value} : killv d (.v x) = .v x := rfl
@[go_sem] theorem killv_skip {d : Nat} : killv d .skip = .skip := rfl
@[go_sem] theorem killv_loc {d : Nat} {x : List Value} : killv d (.loc x) = .loc x := rfl
@[go_sem] theorem killv_ls {d a b : Nat} {x : List Value} : killv d (.ls a b x) = .ls a b x := rfl
@[go_sem] theorem killv_lp {d s o : Nat} : killv d (.lp s o) = if s = d then jv else .lp s o := rfl
def iniV : Option Value → FV
  | some x => .v x
  | none => .skip
@[go_sem] theorem init_app {args : List Value} {t : Nat} : FR.init args t = iniV args[t]? := by
  unfold FR.init iniV
  split <;> simp_all
@[go_sem] theorem iniV_some {x : Value} : iniV (some x) = .v x := rfl
@[go_sem] theorem ofL_cons {s : Nat} {x : FV} {l : List (Nat × FV)} {t : Nat} : FR.ofL ((s, x) :: l) t = if t = s then x else FR.ofL l t := rfl
@[go_sem] theorem ofL_nil {t : Nat} : FR.ofL [] t = jv := rfl

def rdt : FV → Option Value
  | .v x => some x
  | _ => none
@[go_sem] theorem rdv_tmp {t : Tmp} : rdv fr (.tmp t) = rdt (fr t) := by simp only [rdv]; unfold rdt; split <;> simp_all
@[go_sem] theorem rdt_v {x : Value} : rdt (.v x) = some x := rfl
@[go_sem] theorem rdv_int {j : IntKind} {n : Int} : rdv fr (.const (.int j n)) = some (.int j n) := rfl
@[go_sem] theorem rdv_bool {b : Bool} : rdv fr (.const (.bool b)) = some (.bool b) := rfl
@[go_sem] theorem rdv_str {s : ByteArray} : rdv fr (.const (.string s)) = some (.string s) := rfl
@[go_sem] theorem rdv_nil : rdv fr (.const (.slice none 0 0)) = some (.slice none 0 0) := rfl
@[go_sem] theorem rdv_func {f : FuncId} : rdv fr (.func f) = some (.func (.func f) #[] #[]) := rfl
@[go_sem] theorem rdv_agg {cs : Array Value} (h : okConst (.agg cs) = true) : rdv fr (.const (.agg cs)) = some (.agg cs) := by simp [rdv, h]

def rdaT (fr : FR) (t : Tmp) : FV → Option FV
  | .v x => some (.v x)
  | .loc _ => some (.lp t 0)
  | .lp s o => match fr s with
    | .loc _ => some (.lp s o)
    | _ => none
  | _ => none
def isLoc : FV → Bool
  | .loc _ => true
  | _ => false
@[go_sem] theorem rda_tmp {t : Tmp} : rda fr (.tmp t) = rdaT fr t (fr t) := by simp only [rda]; unfold rdaT; generalize fr t = y; cases y <;> rfl
@[go_sem] theorem rda_int {j : IntKind} {n : Int} : rda fr (.const (.int j n)) = some (.v (.int j n)) := rfl
@[go_sem] theorem rda_bool {b : Bool} : rda fr (.const (.bool b)) = some (.v (.bool b)) := rfl
@[go_sem] theorem rda_str {s : ByteArray} : rda fr (.const (.string s)) = some (.v (.string s)) := rfl
@[go_sem] theorem rda_nil : rda fr (.const (.slice none 0 0)) = some (.v (.slice none 0 0)) := rfl
@[go_sem] theorem rdaT_v {t : Tmp} {x : Value} : rdaT fr t (.v x) = some (.v x) := rfl
@[go_sem] theorem rdaT_loc {t : Tmp} {x : List Value} : rdaT fr t (.loc x) = some (.lp t 0) := rfl
def lpIf (b : Bool) (s o : Nat) : Option FV := if b = true then some (.lp s o) else none
@[go_sem] theorem rdaT_lp {t : Tmp} {s o : Nat} : rdaT fr t (.lp s o) = lpIf (isLoc (fr s)) s o := by
  simp only [rdaT, lpIf, isLoc]
  cases fr s <;> rfl
@[go_sem] theorem isLoc_loc {x : List Value} : isLoc (.loc x) = true := rfl
@[go_sem] theorem lpIf_true {s o : Nat} : lpIf true s o = some (.lp s o) := rfl

-- plain operations
def consO (x : Option Value) (xs : Option (List Value)) : Option (List Value) :=
  match x, xs with
  | some x, some xs => some (x :: xs)
  | _, _ => none
@[go_sem] theorem consO_some {x : Value} {xs : List Value} : consO (some x) (some xs) = some (x :: xs) := rfl
def rdvl (fr : FR) : List Operand → Option (List Value)
  | [] => some []
  | x :: xs => consO (rdv fr x) (rdvl fr xs)
@[go_sem] theorem rdvl_nil : rdvl fr [] = some [] := rfl
@[go_sem] theorem rdvl_cons {x : Operand} {xs : List Operand} : rdvl fr (x :: xs) = consO (rdv fr x) (rdvl fr xs) := rfl
theorem mat_rdv {x : Operand} {v : Value} (h : rdv fr x = some v) : mat fr H x = some (v, fr, H) := by
  cases x with
  | tmp t => simp only [rdv] at h; split at h <;> simp_all [mat]
  | const c => simp [mat, h]
  | func f => simp [mat, h]
  | global g => simp [rdv] at h
theorem matl_rdvl : ∀ {xs : List Operand} {vs : List Value}, rdvl fr xs = some vs → matl fr H xs = some (vs, fr, H) := by
  intro xs
  induction xs with
  | nil => intro vs h; simp [rdvl] at h; simp [matl, h]
  | cons x xs ih =>
    intro vs h
    simp only [rdvl, consO] at h
    split at h
    · rename_i v vs' h1 h2
      cases h
      simp [matl, mat_rdv h1, ih h2]
    · cases h
def awp1 (P : Program) (nt : Nat) (vs : Option (List Value)) (op : Op) (d : Option Tmp) (k : List It) (Q : Exit → FR → AH → Prop) (fr : FR) (H : AH) : Prop :=
  match vs with
  | some vs => awv P nt (plainV P op vs) d k Q fr H
  | none => aplain P nt ⟨d, op, 0, "", #[], none⟩ (aw P nt k Q) fr H
theorem awp1_congr {x x' : Option (List Value)} {op : Op} {d : Option Tmp} (h : x = x') : awp1 P nt x op d k Q fr H = awp1 P nt x' op d k Q fr H := by rw [h]
@[go_sem ↓] theorem awp1_some {vs : List Value} {op : Op} {d : Option Tmp} : awp1 P nt (some vs) op d k Q fr H = awv P nt (plainV P op vs) d k Q fr H := rfl
theorem aplain_eq {op : Op} {d : Option Tmp} {xs : List Operand} (hx : plainOps op = some xs) : aplain P nt ⟨d, op, 0, "", #[], none⟩ (aw P nt k Q) fr H = awp1 P nt (rdvl fr xs) op d k Q fr H := by
  unfold awp1
  split
  · rename_i vs h
    simp only [aplain, hx, matl_rdvl h, awv]
    cases plainV P op vs <;> rfl
  · rfl
@[go_sem ↓] theorem aw1_assign {x : Operand} {d : Option Tmp} : aw1 P nt (.assign x) d k Q fr H = awp1 P nt (rdvl fr [x]) (.assign x) d k Q fr H := aplain_eq (op := (.assign x)) (xs := [x]) rfl
@[go_sem ↓] theorem aw1_unOp {op : UnOp} {t : TypeId} {x : Operand} {d : Option Tmp} : aw1 P nt (.unOp op t x) d k Q fr H = awp1 P nt (rdvl fr [x]) (.unOp op t x) d k Q fr H := aplain_eq (op := (.unOp op t x)) (xs := [x]) rfl
@[go_sem ↓] theorem aw1_convert {s t : TypeId} {x : Operand} {d : Option Tmp} : aw1 P nt (.convert s t x) d k Q fr H = awp1 P nt (rdvl fr [x]) (.convert s t x) d k Q fr H := aplain_eq (op := (.convert s t x)) (xs := [x]) rfl
@[go_sem ↓] theorem aw1_field {t : TypeId} {x : Operand} {f : Nat} {d : Option Tmp} : aw1 P nt (.field t x f) d k Q fr H = awp1 P nt (rdvl fr [x]) (.field t x f) d k Q fr H := aplain_eq (op := (.field t x f)) (xs := [x]) rfl
@[go_sem ↓] theorem aw1_extract {x : Operand} {i : Nat} {d : Option Tmp} : aw1 P nt (.extract x i) d k Q fr H = awp1 P nt (rdvl fr [x]) (.extract x i) d k Q fr H := aplain_eq (op := (.extract x i)) (xs := [x]) rfl
@[go_sem ↓] theorem aw1_binOp {op : BinOp} {t u : TypeId} {x y : Operand} {d : Option Tmp} : aw1 P nt (.binOp op t x y u) d k Q fr H = awp1 P nt (rdvl fr [x, y]) (.binOp op t x y u) d k Q fr H := aplain_eq (op := (.binOp op t x y u)) (xs := [x, y]) rfl
@[go_sem ↓] theorem aw1_index {t : TypeId} {x y : Operand} {d : Option Tmp} : aw1 P nt (.index t x y) d k Q fr H = awp1 P nt (rdvl fr [x, y]) (.index t x y) d k Q fr H := aplain_eq (op := (.index t x y)) (xs := [x, y]) rfl
@[go_sem ↓] theorem aw1_len {args : Array Operand} {ts : Array TypeId} {d : Option Tmp} : aw1 P nt (.call ⟨.builtin .len, args, ts⟩) d k Q fr H = awp1 P nt (rdvl fr args.toList) (.call ⟨.builtin .len, args, ts⟩) d k Q fr H := aplain_eq (op := (.call ⟨.builtin .len, args, ts⟩)) (xs := args.toList) rfl
@[go_sem ↓] theorem aw1_min {args : Array Operand} {ts : Array TypeId} {d : Option Tmp} : aw1 P nt (.call ⟨.builtin .min, args, ts⟩) d k Q fr H = awp1 P nt (rdvl fr args.toList) (.call ⟨.builtin .min, args, ts⟩) d k Q fr H := aplain_eq (op := (.call ⟨.builtin .min, args, ts⟩)) (xs := args.toList) rfl
@[go_sem ↓] theorem aw1_max {args : Array Operand} {ts : Array TypeId} {d : Option Tmp} : aw1 P nt (.call ⟨.builtin .max, args, ts⟩) d k Q fr H = awp1 P nt (rdvl fr args.toList) (.call ⟨.builtin .max, args, ts⟩) d k Q fr H := aplain_eq (op := (.call ⟨.builtin .max, args, ts⟩)) (xs := args.toList) rfl
@[go_sem ↓] theorem aw1_slice {t : TypeId} {x : Operand} {l h m : Option Operand} {d : Option Tmp} : aw1 P nt (.slice t x l h m) d k Q fr H = awp1 P nt (rdvl fr ([x] ++ l.toList ++ h.toList ++ m.toList)) (.slice t x l h m) d k Q fr H := aplain_eq (op := (.slice t x l h m)) (xs := ([x] ++ l.toList ++ h.toList ++ m.toList)) rfl
@[go_sem ↓] theorem aw1_build {t : TypeId} {ps : Array (Nat × Operand)} {d : Option Tmp} : aw1 P nt (.build t ps) d k Q fr H = awp1 P nt (rdvl fr (ps.toList.map Prod.snd)) (.build t ps) d k Q fr H :=
  aplain_eq (op := .build t ps) (xs := ps.toList.map Prod.snd) rfl
@[go_sem ↓] theorem aw1_makeFunc {fn : Fn} {x y : Array Operand} {d : Option Tmp} : aw1 P nt (.makeFunc fn x y) d k Q fr H = awp1 P nt (rdvl fr (x.toList ++ y.toList)) (.makeFunc fn x y) d k Q fr H := aplain_eq (op := (.makeFunc fn x y)) (xs := (x.toList ++ y.toList)) rfl

def awm (P : Program) (nt : Nat) (x : Option FV) (o : Operand) (d : Option Tmp) (k : List It) (Q : Exit → FR → AH → Prop) (fr : FR) (H : AH) : Prop :=
  match x with
  | some (.lp s off) => putO nt (aw P nt k Q) d (.lp s off) fr H
  | some (.v u) => putO nt (aw P nt k Q) d (.v u) fr H
  | _ => aplain P nt ⟨d, .move o, 0, "", #[], none⟩ (aw P nt k Q) fr H
theorem awm_congr {x x' : Option FV} {o : Operand} {d : Option Tmp} (h : x = x') : awm P nt x o d k Q fr H = awm P nt x' o d k Q fr H := by rw [h]
theorem rda_rdv {x : Operand} {v : Value} (h : rda fr x = some (.v v)) : rdv fr x = some v := by
  cases x with
  | tmp t =>
    simp only [rda] at h
    split at h
    · rename_i y hy; simp at h; subst h; simp [rdv, hy]
    · cases h
    · split at h <;> cases h
    · cases h
  | const c => simpa [rda] using h
  | func f => simpa [rda] using h
  | global g => simpa [rda] using h
@[go_sem ↓] theorem aw1_move {x : Operand} {d : Option Tmp} : aw1 P nt (.move x) d k Q fr H = awm P nt (rda fr x) x d k Q fr H := by
  show (match rda fr x with
    | some (.lp s off) => putO nt (aw P nt k Q) d (.lp s off) fr H
    | _ => aplain P nt ⟨d, .move x, 0, "", #[], none⟩ (aw P nt k Q) fr H) = _
  unfold awm
  cases hx : rda fr x with
  | none => rfl
  | some y =>
    cases y with
    | v u =>
      simp only
      rw [aplain_eq (xs := [x]) rfl]
      simp [rdvl, rda_rdv hx, consO, awp1, awv, plainV]
    | _ => rfl
@[go_sem ↓] theorem awm_v {u : Value} {o : Operand} {d : Tmp} (h : d < nt) : awm P nt (some (.v u)) o (some d) k Q fr H = aw P nt k Q (fr.put d (.v u)) H := by simp [awm, putO, h]
@[go_sem ↓] theorem awm_lp {s f : Nat} {o : Operand} {d : Tmp} (h : d < nt) : awm P nt (some (.lp s f)) o (some d) k Q fr H = aw P nt k Q (fr.put d (.lp s f)) H := by simp [awm, putO, h]

def awpk (P : Program) (nt : Nat) (c : Option Value) (x y : Operand) (d : Option Tmp) (k : List It) (Q : Exit → FR → AH → Prop) (fr : FR) (H : AH) : Prop :=
  match c with
  | some (.bool true) => awv P nt (rdv fr x) d k Q fr H
  | some (.bool false) => awv P nt (rdv fr y) d k Q fr H
  | _ => False
theorem awpk_congr {c c' : Option Value} {x y : Operand} {d : Option Tmp} (h : c = c') : awpk P nt c x y d k Q fr H = awpk P nt c' x y d k Q fr H := by rw [h]
@[go_sem ↓] theorem aw1_pick {c x y : Operand} {d : Option Tmp} : aw1 P nt (.pick c x y) d k Q fr H = awpk P nt (rdv fr c) x y d k Q fr H := by
  unfold awpk awv
  rfl
@[go_sem ↓] theorem awpk_true {x y : Operand} {d : Option Tmp} : awpk P nt (some (.bool true)) x y d k Q fr H = awv P nt (rdv fr x) d k Q fr H := rfl
@[go_sem ↓] theorem awpk_false {x y : Operand} {d : Option Tmp} : awpk P nt (some (.bool false)) x y d k Q fr H = awv P nt (rdv fr y) d k Q fr H := rfl
theorem awpk_split {b : Bool} {x y : Operand} {d : Option Tmp} (h1 : b = true → awv P nt (rdv fr x) d k Q fr H) (h2 : b = false → awv P nt (rdv fr y) d k Q fr H) : awpk P nt (some (.bool b)) x y d k Q fr H := by
  cases b
  · exact h2 rfl
  · exact h1 rfl

attribute [congr] aw_congr awc_congr awg_congr awv_congr awf_congr awp1_congr awm_congr awpk_congr

end
end Go.Am
