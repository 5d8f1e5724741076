/-
  The abstract machine, part O: the laws by which the machine is run by hand: values, memory, calls, loops.
  No condition.
-/
import Derived.Test.YthdjiekgolgmfaaAmN
namespace Go.Am

section
variable {P : Program} {nt : Nat} {k : List It} {Q : Exit → FR → AH → Prop} {fr : FR} {H : AH}

-- values
@[go_sem] theorem plainV_assign {x : Operand} {v : Value} : plainV P (.assign x) [v] = some v := rfl
@[go_sem] theorem plainV_unOp {op : UnOp} {t : TypeId} {x : Operand} {v : Value} : plainV P (.unOp op t x) [v] = unV op v := rfl
@[go_sem] theorem plainV_convert {s t : TypeId} {x : Operand} {v : Value} : plainV P (.convert s t x) [v] = convV P s t v := rfl
@[go_sem] theorem plainV_field {t : TypeId} {x : Operand} {f : Nat} {v : Value} : plainV P (.field t x f) [v] = fieldV P t f v := rfl
@[go_sem] theorem plainV_extract {x : Operand} {i : Nat} {us : List Value} : plainV P (.extract x i) [.tuple us.toArray] = us[i]? := rfl
@[go_sem] theorem plainV_binOp {op : BinOp} {t u : TypeId} {x y : Operand} {v w : Value} : plainV P (.binOp op t x y u) [v, w] = binV P op t v w := rfl
@[go_sem] theorem plainV_index {t : TypeId} {x y : Operand} {v w : Value} : plainV P (.index t x y) [v, w] = indexV P t v w := rfl
@[go_sem] theorem plainV_len {args : Array Operand} {t : TypeId} {v : Value} : plainV P (.call ⟨.builtin .len, args, #[t]⟩) [v] = lenV P t v := rfl
@[go_sem] theorem plainV_min {args : Array Operand} {ts : Array TypeId} {v w : Value} : plainV P (.call ⟨.builtin .min, args, ts⟩) [v, w] = minmaxV false v w := rfl
@[go_sem] theorem plainV_max {args : Array Operand} {ts : Array TypeId} {v w : Value} : plainV P (.call ⟨.builtin .max, args, ts⟩) [v, w] = minmaxV true v w := rfl
@[go_sem] theorem plainV_slice0 {t : TypeId} {x : Operand} {v : Value} : plainV P (.slice t x none none none) [v] = sliceV P t v none none none := rfl
@[go_sem] theorem plainV_slice1 {t : TypeId} {x l : Operand} {v a : Value} : plainV P (.slice t x (some l) none none) [v, a] = sliceV P t v (some a) none none := rfl
@[go_sem] theorem plainV_slice2 {t : TypeId} {x h : Operand} {v a : Value} : plainV P (.slice t x none (some h) none) [v, a] = sliceV P t v none (some a) none := rfl
@[go_sem] theorem plainV_slice3 {t : TypeId} {x l h : Operand} {v a b : Value} : plainV P (.slice t x (some l) (some h) none) [v, a, b] = sliceV P t v (some a) (some b) none := rfl
@[go_sem] theorem plainV_slice4 {t : TypeId} {x l h m : Operand} {v a b c : Value} : plainV P (.slice t x (some l) (some h) (some m)) [v, a, b, c] = sliceV P t v (some a) (some b) (some c) := rfl
@[go_sem] theorem plainV_slice5 {t : TypeId} {x h m : Operand} {v a b : Value} : plainV P (.slice t x none (some h) (some m)) [v, a, b] = sliceV P t v none (some a) (some b) := rfl
@[go_sem] theorem plainV_build {t : TypeId} {ps : List (Nat × Operand)} {vs : List Value} : plainV P (.build t ps.toArray) vs = buildV P t (ps.map (·.1)) vs := rfl
@[go_sem] theorem plainV_makeFunc0 {fn : Fn} {cs : List Operand} {vs : List Value} : plainV P (.makeFunc fn #[] cs.toArray) vs = some (.func fn #[] vs.toArray) := rfl
@[go_sem] theorem plainV_makeFunc1 {fn : Fn} {x : Operand} {v : Value} : plainV P (.makeFunc fn #[x] #[]) [v] = some (.func fn #[v] #[]) := rfl

@[go_sem] theorem bin_add {j : IntKind} {t : TypeId} {a b : Int} : binV P .add t (.int j a) (.int j b) = some (.int j (j.wrap (a + b))) := by simp [binV, binInt]
@[go_sem] theorem bin_sub {j : IntKind} {t : TypeId} {a b : Int} : binV P .sub t (.int j a) (.int j b) = some (.int j (j.wrap (a - b))) := by simp [binV, binInt]
@[go_sem] theorem bin_mul {j : IntKind} {t : TypeId} {a b : Int} : binV P .mul t (.int j a) (.int j b) = some (.int j (j.wrap (a * b))) := by simp [binV, binInt]
def divV (b : Int) (x : Value) : Option Value := if b = 0 then none else some x
@[go_sem] theorem bin_quo {j : IntKind} {t : TypeId} {a b : Int} : binV P .quo t (.int j a) (.int j b) = divV b (.int j (j.wrap (a.tdiv b))) := by simp [binV, binInt, divV]
@[go_sem] theorem bin_rem {j : IntKind} {t : TypeId} {a b : Int} : binV P .rem t (.int j a) (.int j b) = divV b (.int j (a.tmod b)) := by simp [binV, binInt, divV]
@[go_sem] theorem divV_ne {b : Int} {x : Value} (h : b ≠ 0) : divV b x = some x := by simp [divV, h]
@[go_sem] theorem bin_eql {j : IntKind} {t : TypeId} {a b : Int} : binV P .eql t (.int j a) (.int j b) = some (.bool (a == b)) := by simp [binV, binInt]
@[go_sem] theorem bin_neq {j : IntKind} {t : TypeId} {a b : Int} : binV P .neq t (.int j a) (.int j b) = some (.bool (a != b)) := by simp [binV, binInt]
@[go_sem] theorem bin_lss {j : IntKind} {t : TypeId} {a b : Int} : binV P .lss t (.int j a) (.int j b) = some (.bool (decide (a < b))) := by simp [binV, binInt]
@[go_sem] theorem bin_leq {j : IntKind} {t : TypeId} {a b : Int} : binV P .leq t (.int j a) (.int j b) = some (.bool (decide (a ≤ b))) := by simp [binV, binInt]
@[go_sem] theorem bin_gtr {j : IntKind} {t : TypeId} {a b : Int} : binV P .gtr t (.int j a) (.int j b) = some (.bool (decide (b < a))) := by simp [binV, binInt]
@[go_sem] theorem bin_geq {j : IntKind} {t : TypeId} {a b : Int} : binV P .geq t (.int j a) (.int j b) = some (.bool (decide (b ≤ a))) := by simp [binV, binInt]
@[go_sem] theorem bin_and {j : IntKind} {t : TypeId} {a b : Int} : binV P .and t (.int j a) (.int j b) = some (.int j (j.wrap (BitVec.ofInt j.bits a &&& BitVec.ofInt j.bits b).toNat)) := by simp [binV, binInt]
@[go_sem] theorem bin_or {j : IntKind} {t : TypeId} {a b : Int} : binV P .or t (.int j a) (.int j b) = some (.int j (j.wrap (BitVec.ofInt j.bits a ||| BitVec.ofInt j.bits b).toNat)) := by simp [binV, binInt]
@[go_sem] theorem bin_xor {j : IntKind} {t : TypeId} {a b : Int} : binV P .xor t (.int j a) (.int j b) = some (.int j (j.wrap (BitVec.ofInt j.bits a ^^^ BitVec.ofInt j.bits b).toNat)) := by simp [binV, binInt]
@[go_sem] theorem bin_shl {j j' : IntKind} {t : TypeId} {a b : Int} (h : 0 ≤ b) : binV P .shl t (.int j a) (.int j' b) = some (.int j (j.wrap (a * 2 ^ min b.toNat j.bits))) := by simp [binV]; omega
@[go_sem] theorem bin_shr {j j' : IntKind} {t : TypeId} {a b : Int} (h : 0 ≤ b) : binV P .shr t (.int j a) (.int j' b) = some (.int j (a.fdiv (2 ^ min b.toNat j.bits))) := by simp [binV]; omega
@[go_sem] theorem bin_eqlb {t : TypeId} {a b : Bool} (h : isBoolTy P t = true) : binV P .eql t (.bool a) (.bool b) = some (.bool (a == b)) := by simp [binV, h]
@[go_sem] theorem bin_neqb {t : TypeId} {a b : Bool} (h : isBoolTy P t = true) : binV P .neq t (.bool a) (.bool b) = some (.bool (a != b)) := by simp [binV, h]
@[go_sem] theorem bin_eqls {t : TypeId} {a b : ByteArray} : binV P .eql t (.string a) (.string b) = some (.bool (a.toList == b.toList)) := rfl
@[go_sem] theorem bin_neqs {t : TypeId} {a b : ByteArray} : binV P .neq t (.string a) (.string b) = some (.bool !(a.toList == b.toList)) := rfl
@[go_sem] theorem un_not {b : Bool} : unV .not (.bool b) = some (.bool !b) := rfl
@[go_sem] theorem un_neg {j : IntKind} {n : Int} : unV .neg (.int j n) = some (.int j (j.wrap (0 - n))) := rfl
@[go_sem] theorem minmax_max {j : IntKind} {a b : Int} : minmaxV true (.int j a) (.int j b) = some (.int j (if a < b then b else a)) := by simp [minmaxV]
@[go_sem] theorem minmax_min {j : IntKind} {a b : Int} : minmaxV false (.int j a) (.int j b) = some (.int j (if b < a then b else a)) := by simp [minmaxV]
def lenO (b : Bool) (v : Value) : Option Value := if b = true then some v else none
@[go_sem] theorem lenO_true {v : Value} : lenO true v = some v := rfl
@[go_sem] theorem len_slice {t : TypeId} {p : Option Addr} {n c : Nat} : lenV P t (.slice p n c) = lenO (elemTy P t).isSome (.int .i64 n) := by
  unfold lenV lenO
  cases elemTy P t <;> rfl
@[go_sem] theorem len_str {t : TypeId} {s : ByteArray} (h : isStrTy P t = true) : lenV P t (.string s) = some (.int .i64 s.size) := by simp [lenV, h]

-- memory
@[go_sem] theorem takeN_1 {x0 : Value} {l : List Value} : takeN 1 (x0 :: l) = some [x0] := rfl
@[go_sem] theorem takeN_2 {x0 x1 : Value} {l : List Value} : takeN 2 (x0 :: x1 :: l) = some [x0, x1] := rfl
@[go_sem] theorem takeN_3 {x0 x1 x2 : Value} {l : List Value} : takeN 3 (x0 :: x1 :: x2 :: l) = some [x0, x1, x2] := rfl
@[go_sem] theorem takeN_4 {x0 x1 x2 x3 : Value} {l : List Value} : takeN 4 (x0 :: x1 :: x2 :: x3 :: l) = some [x0, x1, x2, x3] := rfl
@[go_sem] theorem takeN_5 {x0 x1 x2 x3 x4 : Value} {l : List Value} : takeN 5 (x0 :: x1 :: x2 :: x3 :: x4 :: l) = some [x0, x1, x2, x3, x4] := rfl
@[go_sem] theorem takeN_6 {x0 x1 x2 x3 x4 x5 : Value} {l : List Value} : takeN 6 (x0 :: x1 :: x2 :: x3 :: x4 :: x5 :: l) = some [x0, x1, x2, x3, x4, x5] := rfl
@[go_sem] theorem takeN_7 {x0 x1 x2 x3 x4 x5 x6 : Value} {l : List Value} : takeN 7 (x0 :: x1 :: x2 :: x3 :: x4 :: x5 :: x6 :: l) = some [x0, x1, x2, x3, x4, x5, x6] := rfl
@[go_sem] theorem takeN_8 {x0 x1 x2 x3 x4 x5 x6 x7 : Value} {l : List Value} : takeN 8 (x0 :: x1 :: x2 :: x3 :: x4 :: x5 :: x6 :: x7 :: l) = some [x0, x1, x2, x3, x4, x5, x6, x7] := rfl
@[go_sem] theorem takeN_9 {x0 x1 x2 x3 x4 x5 x6 x7 x8 : Value} {l : List Value} : takeN 9 (x0 :: x1 :: x2 :: x3 :: x4 :: x5 :: x6 :: x7 :: x8 :: l) = some [x0, x1, x2, x3, x4, x5, x6, x7, x8] := rfl
@[go_sem] theorem takeN_10 {x0 x1 x2 x3 x4 x5 x6 x7 x8 x9 : Value} {l : List Value} : takeN 10 (x0 :: x1 :: x2 :: x3 :: x4 :: x5 :: x6 :: x7 :: x8 :: x9 :: l) = some [x0, x1, x2, x3, x4, x5, x6, x7, x8, x9] := rfl
@[go_sem] theorem takeN_11 {x0 x1 x2 x3 x4 x5 x6 x7 x8 x9 x10 : Value} {l : List Value} : takeN 11 (x0 :: x1 :: x2 :: x3 :: x4 :: x5 :: x6 :: x7 :: x8 :: x9 :: x10 :: l) = some [x0, x1, x2, x3, x4, x5, x6, x7, x8, x9, x10] := rfl
@[go_sem] theorem takeN_12 {x0 x1 x2 x3 x4 x5 x6 x7 x8 x9 x10 x11 : Value} {l : List Value} : takeN 12 (x0 :: x1 :: x2 :: x3 :: x4 :: x5 :: x6 :: x7 :: x8 :: x9 :: x10 :: x11 :: l) = some [x0, x1, x2, x3, x4, x5, x6, x7, x8, x9, x10, x11] := rfl
@[go_sem] theorem takeN_13 {x0 x1 x2 x3 x4 x5 x6 x7 x8 x9 x10 x11 x12 : Value} {l : List Value} : takeN 13 (x0 :: x1 :: x2 :: x3 :: x4 :: x5 :: x6 :: x7 :: x8 :: x9 :: x10 :: x11 :: x12 :: l) = some [x0, x1, x2, x3, x4, x5, x6, x7, x8, x9, x10, x11, x12] := rfl
@[go_sem] theorem takeN_14 {x0 x1 x2 x3 x4 x5 x6 x7 x8 x9 x10 x11 x12 x13 : Value} {l : List Value} : takeN 14 (x0 :: x1 :: x2 :: x3 :: x4 :: x5 :: x6 :: x7 :: x8 :: x9 :: x10 :: x11 :: x12 :: x13 :: l) = some [x0, x1, x2, x3, x4, x5, x6, x7, x8, x9, x10, x11, x12, x13] := rfl
@[go_sem] theorem takeN_15 {x0 x1 x2 x3 x4 x5 x6 x7 x8 x9 x10 x11 x12 x13 x14 : Value} {l : List Value} : takeN 15 (x0 :: x1 :: x2 :: x3 :: x4 :: x5 :: x6 :: x7 :: x8 :: x9 :: x10 :: x11 :: x12 :: x13 :: x14 :: l) = some [x0, x1, x2, x3, x4, x5, x6, x7, x8, x9, x10, x11, x12, x13, x14] := rfl
@[go_sem] theorem takeN_16 {x0 x1 x2 x3 x4 x5 x6 x7 x8 x9 x10 x11 x12 x13 x14 x15 : Value} {l : List Value} : takeN 16 (x0 :: x1 :: x2 :: x3 :: x4 :: x5 :: x6 :: x7 :: x8 :: x9 :: x10 :: x11 :: x12 :: x13 :: x14 :: x15 :: l) = some [x0, x1, x2, x3, x4, x5, x6, x7, x8, x9, x10, x11, x12, x13, x14, x15] := rfl
def ldT (x : Option (Bool × Nat × Nat × List Value)) (cs : Option (List Value)) : Option Value :=
  match x, cs with
  | some (true, sz, _), some cs => (takeN sz cs).map fun l => .agg l.toArray
  | some (false, _, _), some (c :: _) => some c
  | _, _ => none
@[go_sem] theorem loadV_eq {t : TypeId} {cs : Option (List Value)} : loadV P t cs = ldT (tsz P t) cs := rfl
def aggO (x : Option (List Value)) : Option Value := x.map fun l => .agg l.toArray
@[go_sem] theorem aggO_some {l : List Value} : aggO (some l) = some (.agg l.toArray) := rfl
@[go_sem] theorem ldT_agg {sz : Nat} {r : Nat × List Value} {cs : List Value} : ldT (some (true, sz, r)) (some cs) = aggO (takeN sz cs) := rfl
@[go_sem] theorem ldT_one {sz : Nat} {r : Nat × List Value} {c : Value} {cs : List Value} : ldT (some (false, sz, r)) (some (c :: cs)) = some c := rfl
def ldL (o : Nat) : FV → Option (List Value)
  | .loc cells => some (cells.drop o)
  | _ => none
@[go_sem] theorem ldL_loc {o : Nat} {cs : List Value} : ldL o (.loc cs) = some (cs.drop o) := rfl
def ldA (fr : FR) (H : AH) (x : Option FV) : Option (List Value) :=
  match x with
  | some (.lp s o) => match fr s with
    | .loc cells => some (cells.drop o)
    | _ => none
  | some (.v (.pointer (some ⟨id, off, none⟩))) => H.load id off
  | _ => none
@[go_sem] theorem ldA_lp {s o : Nat} : ldA fr H (some (.lp s o)) = ldL o (fr s) := by
  simp only [ldA]
  unfold ldL
  cases fr s <;> rfl
@[go_sem] theorem ldA_ptr {id off : Nat} : ldA fr H (some (.v (.pointer (some ⟨id, off, none⟩)))) = H.load id off := rfl
theorem loadAddr_eq {x : Operand} : loadAddr fr H x = ldA fr H (rda fr x) := rfl
@[go_sem ↓] theorem aw1_load {t : TypeId} {x : Operand} {d : Option Tmp} : aw1 P nt (.load t x) d k Q fr H = awv P nt (ldT (tsz P t) (ldA fr H (rda fr x))) d k Q fr H := by
  show (match loadV P t (loadAddr fr H x) with | some v => putO nt (aw P nt k Q) d (.v v) fr H | none => False) = _
  rw [loadAddr_eq, loadV_eq]
  rfl
def adF (f : Option (Nat × Nat)) (x : Option FV) : Option FV :=
  match f, x with
  | some (o, _), some (.lp t off) => some (.lp t (off + o))
  | some (o, _), some (.v (.pointer (some ⟨id, off, none⟩))) => some (.v (.pointer (some ⟨id, off + o, none⟩)))
  | _, _ => none
@[go_sem] theorem adF_lp {o s t off : Nat} : adF (some (o, s)) (some (.lp t off)) = some (.lp t (off + o)) := rfl
@[go_sem] theorem adF_ptr {o s id off : Nat} : adF (some (o, s)) (some (.v (.pointer (some ⟨id, off, none⟩)))) = some (.v (.pointer (some ⟨id, off + o, none⟩))) := rfl
@[go_sem ↓] theorem aw1_fieldAddr {s : TypeId} {x : Operand} {f : Nat} {d : Option Tmp} : aw1 P nt (.fieldAddr s x f) d k Q fr H = awf P nt (adF (fldOff P s f) (rda fr x)) d k Q fr H := rfl
def nckF : Option FV → Option FV
  | some (.v (.pointer (some a))) => some (.v (.pointer (some a)))
  | some (.lp s off) => some (.lp s off)
  | _ => none
@[go_sem] theorem nckF_ptr {a : Addr} : nckF (some (.v (.pointer (some a)))) = some (.v (.pointer (some a))) := rfl
@[go_sem] theorem nckF_lp {s o : Nat} : nckF (some (.lp s o)) = some (.lp s o) := rfl
@[go_sem ↓] theorem aw1_nilCheck {x : Operand} {d : Option Tmp} : aw1 P nt (.nilCheck x) d k Q fr H = awf P nt (nckF (rda fr x)) d k Q fr H := rfl
/-- An element's address: of a slice, of an array in a slot's own block, of an array behind a pointer. -/
def ixF (P : Program) (t : TypeId) (x : Option FV) (i : Option Value) : Option FV :=
  match x, i with
  | some (.v (.slice (some ⟨id, off, some es'⟩) n _)), some (.int _ j) => match elemTy P t with
    | some e => match tsz P e with
      | some (_, es, _) => if es = es' ∧ 0 ≤ j ∧ j < n then some (.v (.pointer (some ⟨id, off + j.toNat * es, none⟩))) else none
      | none => none
    | none => none
  | some (.lp s off), some (.int _ j) => match arrTy P t with
    | some (len, e) => match tsz P e with
      | some (_, es, _) => if 0 ≤ j ∧ j < len then some (.lp s (off + j.toNat * es)) else none
      | none => none
    | none => none
  | some (.v (.pointer (some ⟨id, off, none⟩))), some (.int _ j) => match arrTy P t with
    | some (len, e) => match tsz P e with
      | some (_, es, _) => if 0 ≤ j ∧ j < len then some (.v (.pointer (some ⟨id, off + j.toNat * es, none⟩))) else none
      | none => none
    | none => none
  | _, _ => none
/-- 'the index is within': said in a form of its own. -/
def InB (j : Int) (n : Nat) : Prop := 0 ≤ j ∧ j < n
theorem inB_nat {i n : Nat} (h : i < n) : InB (i : Int) n := ⟨by omega, by omega⟩
theorem ixF_slice {t e : TypeId} {id off es n c : Nat} {q : IntKind} {j : Int} {g : Bool} {r : Nat × List Value} (he : elemTy P t = some e) (hz : tsz P e = some (g, es, r)) (h : InB j n) :
    ixF P t (some (.v (.slice (some ⟨id, off, some es⟩) n c))) (some (.int q j)) = some (.v (.pointer (some ⟨id, off + j.toNat * es, none⟩))) := by
  simp only [ixF, he, hz]
  rw [if_pos ⟨trivial, h.1, h.2⟩]
@[go_sem ↓] theorem aw1_indexAddr {t : TypeId} {x i : Operand} {d : Option Tmp} : aw1 P nt (.indexAddr t x i) d k Q fr H = awf P nt (ixF P t (rda fr x) (rdv fr i)) d k Q fr H := rfl

-- what a slot is given
def awl (P : Program) (nt : Nat) (z : Option (Bool × Nat × Nat × List Value)) (d : Option Tmp) (k : List It) (Q : Exit → FR → AH → Prop) (fr : FR) (H : AH) : Prop :=
  match z, d with
  | some (_, _, _, z), some d => if d < nt ∧ z.all okConst = true then aw P nt k Q (fr.putLoc d z) H else False
  | _, _ => False
theorem awl_congr {z z' : Option (Bool × Nat × Nat × List Value)} {d : Option Tmp} (h : z = z') : awl P nt z d k Q fr H = awl P nt z' d k Q fr H := by rw [h]
@[go_sem ↓] theorem aw1_alloc {e : TypeId} {d : Option Tmp} : aw1 P nt (.alloc e) d k Q fr H = awl P nt (tsz P e) d k Q fr H := rfl
@[go_sem ↓] theorem awl_some {g : Bool} {a b : Nat} {z : List Value} {d : Tmp} (h : d < nt) (hz : z.all okConst = true) : awl P nt (some (g, a, b, z)) (some d) k Q fr H = aw P nt k Q (fr.putLoc d z) H := by
  simp only [awl, if_pos (And.intro h hz)]
def awb (P : Program) (nt : Nat) (z : Option (Bool × Nat × Nat × List Value)) (v : Option Value) (d : Option Tmp) (k : List It) (Q : Exit → FR → AH → Prop) (fr : FR) (H : AH) : Prop :=
  match z, v, d with
  | some _, some v, some d => if d < nt ∧ ntup v = true then aw P nt k Q (fr.putLoc d v.cells.toList) H else False
  | _, _, _ => False
theorem awb_congr {z z' : Option (Bool × Nat × Nat × List Value)} {v v' : Option Value} {d : Option Tmp} (h : z = z') (hv : v = v') : awb P nt z v d k Q fr H = awb P nt z' v' d k Q fr H := by rw [h, hv]
@[go_sem ↓] theorem aw1_box {e : TypeId} {x : Operand} {d : Option Tmp} : aw1 P nt (.box e x) d k Q fr H = awb P nt (tsz P e) (rdv fr x) d k Q fr H := rfl
@[go_sem ↓] theorem awb_agg {z : Bool × Nat × Nat × List Value} {cs : List Value} {d : Tmp} (h : d < nt) : awb P nt (some z) (some (.agg cs.toArray)) (some d) k Q fr H = aw P nt k Q (fr.putLoc d cs) H := by
  simp [awb, h, ntup, Value.cells]
@[go_sem ↓] theorem awb_int {z : Bool × Nat × Nat × List Value} {j : IntKind} {n : Int} {d : Tmp} (h : d < nt) : awb P nt (some z) (some (.int j n)) (some d) k Q fr H = aw P nt k Q (fr.putLoc d [.int j n]) H := by
  simp [awb, h, ntup, Value.cells]
@[go_sem ↓] theorem awb_slice {z : Bool × Nat × Nat × List Value} {p : Option Addr} {n c : Nat} {d : Tmp} (h : d < nt) : awb P nt (some z) (some (.slice p n c)) (some d) k Q fr H = aw P nt k Q (fr.putLoc d [.slice p n c]) H := by
  simp [awb, h, ntup, Value.cells]
@[go_sem ↓] theorem awb_func {z : Bool × Nat × Nat × List Value} {fn : Fn} {x y : Array Value} {d : Tmp} (h : d < nt) : awb P nt (some z) (some (.func fn x y)) (some d) k Q fr H = aw P nt k Q (fr.putLoc d [.func fn x y]) H := by
  simp [awb, h, ntup, Value.cells]

-- a slice written out
def awbs (P : Program) (nt : Nat) (vs : Option (List Value)) (t : TypeId) (len : Nat) (ps : Array (Nat × Operand)) (d : Option Tmp) (k : List It) (Q : Exit → FR → AH → Prop) (fr : FR) (H : AH) : Prop :=
  match vs with
  | some vs => match elemTy P t, d with
    | some e, some d => match tsz P e with
      | some (_, es, _, z) => if d < nt ∧ len * es ≤ 2 ^ 24 ∧ z.length = es ∧ es ≠ 0 ∧ z.all okConst = true then
          match fillA (fun i => some (i * es, es)) ((ps.toList.map (·.1)).zip vs) ((List.replicate len z).flatten) with
          | some cs => aw P nt k Q (fr.put d (.ls len es cs)) H
          | none => False
        else False
      | none => False
    | _, _ => False
  | none => aop P nt ⟨d, .buildSlice t len ps, 0, "", #[], none⟩ (aw P nt k Q) fr H
theorem awbs_congr {vs vs' : Option (List Value)} {t : TypeId} {len : Nat} {ps : Array (Nat × Operand)} {d : Option Tmp} (h : vs = vs') : awbs P nt vs t len ps d k Q fr H = awbs P nt vs' t len ps d k Q fr H := by rw [h]
@[go_sem ↓] theorem aw1_buildSlice {t : TypeId} {len : Nat} {ps : Array (Nat × Operand)} {d : Option Tmp} : aw1 P nt (.buildSlice t len ps) d k Q fr H = awbs P nt (rdvl fr (ps.toList.map Prod.snd)) t len ps d k Q fr H := by
  unfold awbs
  cases h : rdvl fr (ps.toList.map Prod.snd) with
  | none => rfl
  | some vs =>
    show aop P nt ⟨d, .buildSlice t len ps, 0, "", #[], none⟩ (aw P nt k Q) fr H = _
    simp only [aop, matl_rdvl h]
    cases elemTy P t <;> cases d <;> rfl
/-- A slice written out: 'zs' is what its cells hold. -/
theorem awbs_some {vs : List Value} {t e : TypeId} {len : Nat} {ps : Array (Nat × Operand)} {d : Tmp} {g : Bool} {es b : Nat} {z zs : List Value} (he : elemTy P t = some e) (hz : tsz P e = some (g, es, b, z))
    (hd : d < nt) (h1 : len * es ≤ 2 ^ 24) (h2 : z.length = es) (h3 : es ≠ 0) (h4 : z.all okConst = true) (hf : fillA (fun i => some (i * es, es)) ((ps.toList.map (·.1)).zip vs) ((List.replicate len z).flatten) = some zs)
    (h : aw P nt k Q (fr.put d (.ls len es zs)) H) : awbs P nt (some vs) t len ps (some d) k Q fr H := by
  simp only [awbs, he, hz]
  rw [if_pos ⟨hd, h1, h2, h3, h4⟩, hf]
  exact h

-- a store
def putR (x : Option (List Value)) (s : Nat) (P : Program) (nt : Nat) (k : List It) (Q : Exit → FR → AH → Prop) (fr : FR) (H : AH) : Prop :=
  match x with
  | some cs => aw P nt k Q (fr.put s (.loc cs)) H
  | none => False
theorem putR_congr {x x' : Option (List Value)} {s : Nat} (h : x = x') : putR x s P nt k Q fr H = putR x' s P nt k Q fr H := by rw [h]
@[go_sem ↓] theorem putR_some {cs : List Value} {s : Nat} : putR (some cs) s P nt k Q fr H = aw P nt k Q (fr.put s (.loc cs)) H := rfl
/-- A part of a live block's cells is written. -/
def putH (id off : Nat) (xs : List Value) (P : Program) (nt : Nat) (k : List It) (Q : Exit → FR → AH → Prop) (fr : FR) (H : AH) : Prop :=
  match H.b id with
  | some b => if b.rw = true then match putAt b.cells off xs with
      | some cs => aw P nt k Q fr (H.set id (some ⟨true, cs⟩))
      | none => False
    else False
  | none => False
def locOf : FV → Option (List Value)
  | .loc cs => some cs
  | _ => none
@[go_sem] theorem locOf_loc {cs : List Value} : locOf (.loc cs) = some cs := rfl
def putO' (off : Nat) (xs : List Value) (x : Option (List Value)) : Option (List Value) := x.bind fun cs => putAt cs off xs
@[go_sem] theorem putO'_some {off : Nat} {xs cs : List Value} : putO' off xs (some cs) = putAt cs off xs := rfl
def stA (P : Program) (nt : Nat) (a : Option FV) (xs : List Value) (k : List It) (Q : Exit → FR → AH → Prop) (fr : FR) (H : AH) : Prop :=
  match a with
  | some (.lp s off) => putR (putO' off xs (locOf (fr s))) s P nt k Q fr H
  | some (.v (.pointer (some ⟨id, off, none⟩))) => putH id off xs P nt k Q fr H
  | _ => False
theorem stA_congr {a a' : Option FV} {xs : List Value} (h : a = a') : stA P nt a xs k Q fr H = stA P nt a' xs k Q fr H := by rw [h]
@[go_sem ↓] theorem stA_lp {s off : Nat} {xs : List Value} : stA P nt (some (.lp s off)) xs k Q fr H = putR (putO' off xs (locOf (fr s))) s P nt k Q fr H := rfl
@[go_sem ↓] theorem stA_ptr {id off : Nat} {xs : List Value} : stA P nt (some (.v (.pointer (some ⟨id, off, none⟩)))) xs k Q fr H = putH id off xs P nt k Q fr H := rfl
def stV (P : Program) (nt : Nat) (v : Option Value) (z : Option (Bool × Nat × Nat × List Value)) (t : TypeId) (a x : Operand) (k : List It) (Q : Exit → FR → AH → Prop) (fr : FR) (H : AH) : Prop :=
  match v, z with
  | some v, some (_, sz, _) => if ntup v = true ∧ v.cells.toList.length = sz ∧ sz ≠ 0 ∧ v.cells.toList.all solid = true then stA P nt (rda fr a) v.cells.toList k Q fr H else False
  | some _, none => False
  | none, _ => aop P nt ⟨none, .store t a x, 0, "", #[], none⟩ (aw P nt k Q) fr H
theorem stV_congr {v v' : Option Value} {z z' : Option (Bool × Nat × Nat × List Value)} {t : TypeId} {a x : Operand} (h : v = v') (hz : z = z') : stV P nt v z t a x k Q fr H = stV P nt v' z' t a x k Q fr H := by rw [h, hz]
@[go_sem ↓] theorem aw1_store {t : TypeId} {a x : Operand} : aw1 P nt (.store t a x) none k Q fr H = stV P nt (rdv fr x) (tsz P t) t a x k Q fr H := by
  unfold stV
  cases h : rdv fr x with
  | none => cases tsz P t <;> rfl
  | some v =>
    show aop P nt ⟨none, .store t a x, 0, "", #[], none⟩ (aw P nt k Q) fr H = _
    simp only [aop, mat_rdv h]
    cases tsz P t with
    | none => rfl
    | some z =>
      obtain ⟨g, sz, r⟩ := z
      simp only
      split
      · unfold stA putR putH putO' locOf
        cases rda fr a with
        | none => rfl
        | some y =>
          cases y with
          | lp s off =>
            simp only
            cases fr s with
            | loc cs => simp only [Option.bind_some]; cases putAt cs off v.cells.toList <;> rfl
            | _ => rfl
          | v u =>
            cases u with
            | pointer p =>
              cases p with
              | none => rfl
              | some ad =>
                obtain ⟨id, off, sp⟩ := ad
                cases sp with
                | none =>
                  simp only
                  cases H.b id with
                  | none => rfl
                  | some b =>
                    simp only
                    split
                    · cases putAt b.cells off v.cells.toList <;> rfl
                    · rfl
                | some _ => rfl
            | _ => rfl
          | _ => rfl
      · rfl
@[go_sem ↓] theorem stV_int {j : IntKind} {n : Int} {g : Bool} {r : Nat × List Value} {t : TypeId} {a x : Operand} : stV P nt (some (.int j n)) (some (g, 1, r)) t a x k Q fr H = stA P nt (rda fr a) [.int j n] k Q fr H := by
  simp [stV, ntup, Value.cells, solid]
@[go_sem ↓] theorem stV_bool {b : Bool} {g : Bool} {r : Nat × List Value} {t : TypeId} {a x : Operand} : stV P nt (some (.bool b)) (some (g, 1, r)) t a x k Q fr H = stA P nt (rda fr a) [.bool b] k Q fr H := by
  simp [stV, ntup, Value.cells, solid]
@[go_sem ↓] theorem stV_slice {p : Option Addr} {n c : Nat} {g : Bool} {r : Nat × List Value} {t : TypeId} {a x : Operand} : stV P nt (some (.slice p n c)) (some (g, 1, r)) t a x k Q fr H = stA P nt (rda fr a) [.slice p n c] k Q fr H := by
  simp [stV, ntup, Value.cells, solid]
@[go_sem ↓] theorem stV_agg {cs : List Value} {g : Bool} {sz : Nat} {r : Nat × List Value} {t : TypeId} {a x : Operand} (h1 : cs.length = sz) (h2 : sz ≠ 0) (h3 : cs.all solid = true) :
    stV P nt (some (.agg cs.toArray)) (some (g, sz, r)) t a x k Q fr H = stA P nt (rda fr a) cs k Q fr H := by
  simp only [stV]
  rw [if_pos ⟨rfl, h1, h2, h3⟩]
  rfl

-- a call
def acallk (P : Program) (nt : Nat) (g : FuncId) (args : List Value) (d : Option Tmp) (k : List It) (Q : Exit → FR → AH → Prop) (fr : FR) (H : AH) : Prop :=
  ACalls P g args H fun v H' => putO nt (aw P nt k Q) d (.v v) fr H'
def awcl (P : Program) (nt : Nat) (f : Option Value) (x : Option (List Value × FR × AH)) (d : Option Tmp) (k : List It) (Q : Exit → FR → AH → Prop) : Prop :=
  match x with
  | some (vs, fr, H) => match f with
    | some (.func (.func g) first captured) => acallk P nt g (first.toList ++ vs ++ captured.toList) d k Q fr H
    | _ => False
  | none => False
/-- A call of a function that is named. -/
@[go_sem ↓] theorem aw1_callf {g : FuncId} {args : Array Operand} {ts : Array TypeId} {d : Option Tmp} :
    aw1 P nt (.call ⟨.value (.func g), args, ts⟩) d k Q fr H = awcl P nt (some (.func (.func g) #[] #[])) (matl fr H args.toList) d k Q := by
  show aop P nt ⟨d, .call ⟨.value (.func g), args, ts⟩, 0, "", #[], none⟩ (aw P nt k Q) fr H = _
  simp only [aop]
  unfold awcl
  cases matl fr H args.toList with
  | none => rfl
  | some x => obtain ⟨vs, fr', H'⟩ := x; rfl
theorem awcl_congr {f f' : Option Value} {x x' : Option (List Value × FR × AH)} {d : Option Tmp} (hf : f = f') (h : x = x') : awcl P nt f x d k Q = awcl P nt f' x' d k Q := by rw [hf, h]
@[go_sem ↓] theorem awcl_some {g : FuncId} {vs first captured : List Value} {d : Option Tmp} : awcl P nt (some (.func (.func g) first.toArray captured.toArray)) (some (vs, fr, H)) d k Q = acallk P nt g (first ++ vs ++ captured) d k Q fr H := rfl
/-- Operands, laid into the heap where they must. -/
def matF (t : Tmp) (fr : FR) (H : AH) : FV → Option (Value × FR × AH)
  | .v x => some (x, fr, H)
  | .ls len es cells => some (.slice (some ⟨H.n, 0, some es⟩) len len, fr.put t (.v (.slice (some ⟨H.n, 0, some es⟩) len len)), H.push ⟨true, cells⟩)
  | _ => none
@[go_sem] theorem mat_tmp {t : Tmp} : mat fr H (.tmp t) = matF t fr H (fr t) := by
  simp only [mat]; unfold matF; cases fr t <;> rfl
@[go_sem] theorem mat_int {j : IntKind} {n : Int} : mat fr H (.const (.int j n)) = some (.int j n, fr, H) := rfl
@[go_sem] theorem mat_bool {b : Bool} : mat fr H (.const (.bool b)) = some (.bool b, fr, H) := rfl
@[go_sem] theorem mat_str {b : ByteArray} : mat fr H (.const (.string b)) = some (.string b, fr, H) := rfl
@[go_sem] theorem mat_nil : mat fr H (.const (.slice none 0 0)) = some (.slice none 0 0, fr, H) := rfl
@[go_sem] theorem mat_func {g : FuncId} : mat fr H (.func g) = some (.func (.func g) #[] #[], fr, H) := rfl
@[go_sem] theorem matF_v {t : Tmp} {x : Value} : matF t fr H (.v x) = some (x, fr, H) := rfl
@[go_sem] theorem matF_ls {t : Tmp} {len es : Nat} {cells : List Value} : matF t fr H (.ls len es cells) = some (.slice (some ⟨H.n, 0, some es⟩) len len, fr.put t (.v (.slice (some ⟨H.n, 0, some es⟩) len len)), H.push ⟨true, cells⟩) := rfl
def matC (y : Option (Value × FR × AH)) (xs : List Operand) : Option (List Value × FR × AH) :=
  match y with
  | some (v, fr', H') => match matl fr' H' xs with
    | some (vs, r) => some (v :: vs, r)
    | none => none
  | none => none
def matD (v : Value) (y : Option (List Value × FR × AH)) : Option (List Value × FR × AH) := y.map fun p => (v :: p.1, p.2)
@[go_sem] theorem matl_nil : matl fr H [] = some ([], fr, H) := rfl
@[go_sem] theorem matl_cons {x : Operand} {xs : List Operand} : matl fr H (x :: xs) = matC (mat fr H x) xs := rfl
@[go_sem] theorem matC_some {v : Value} {xs : List Operand} : matC (some (v, fr, H)) xs = matD v (matl fr H xs) := by
  simp only [matC, matD]
  cases matl fr H xs <;> rfl
@[go_sem] theorem matD_some {v : Value} {vs : List Value} : matD v (some (vs, fr, H)) = some (v :: vs, fr, H) := rfl

/-- A contract, used. -/
theorem acallk_mono {g : FuncId} {args : List Value} {d : Tmp} {R : Value → AH → Prop} (hd : d < nt) (h : ACalls P g args H R) (hk : ∀ v H', R v H' → aw P nt k Q (fr.put d (.v v)) H') : acallk P nt g args (some d) k Q fr H :=
  h.mono fun v H' hr => by simp only [putO, if_pos hd]; exact hk v H' hr

-- loops
/-- What of a frame is said by a list. -/
def Agree : List (Nat × FV) → FR → Prop
  | [], _ => True
  | (s, x) :: l, fr => fr s = x ∧ Agree l fr
theorem agree_weak : ∀ {l : List (Nat × FV)} {fr : FR}, Agree l fr → Weak (FR.ofL l) fr := by
  intro l
  induction l with
  | nil => intro fr _ t; exact .inr rfl
  | cons p l ih =>
    intro fr h t
    obtain ⟨s, x⟩ := p
    obtain ⟨h1, h2⟩ := h
    by_cases e : t = s
    · subst e; left; simp [FR.ofL, h1]
    · rcases ih h2 t with e2 | e2
      · left; simpa [FR.ofL, e] using e2
      · right; simpa [FR.ofL, e] using e2

/-- The end of a round: the loop goes on. -/
def Round {σ : Type} (shape : σ → List (Nat × FV)) (I : σ → AH → Prop) (meas : σ → AH → Nat) (n : Nat) (fr : FR) (H : AH) : Prop := ∃ s, Agree (shape s) fr ∧ I s H ∧ meas s H < n
def lpost {σ : Type} (P : Program) (nt : Nat) (shape : σ → List (Nat × FV)) (I : σ → AH → Prop) (meas : σ → AH → Nat) (n : Nat) (k : List It) (Q : Exit → FR → AH → Prop) : Exit → FR → AH → Prop
  | .normal, fr, H => Round shape I meas n fr H
  | e, fr, H => kont P nt k Q e fr H
@[go_sem ↓] theorem lpost_normal {σ : Type} {shape : σ → List (Nat × FV)} {I : σ → AH → Prop} {meas : σ → AH → Nat} {n : Nat} : lpost P nt shape I meas n k Q .normal fr H = Round shape I meas n fr H := rfl
@[go_sem ↓] theorem lpost_exit {σ : Type} {shape : σ → List (Nat × FV)} {I : σ → AH → Prop} {meas : σ → AH → Nat} {n id : Nat} : lpost P nt shape I meas n k Q (.exit id) fr H = awx P nt id k Q fr H := rfl
@[go_sem ↓] theorem lpost_ret {σ : Type} {shape : σ → List (Nat × FV)} {I : σ → AH → Prop} {meas : σ → AH → Nat} {n : Nat} : lpost P nt shape I meas n k Q .ret fr H = Q .ret fr H := by
  show kont P nt k Q .ret fr H = _
  rw [kont_ret]

/-- A LOOP: 'shape s' says what the live slots hold at a round's head, 'I' what is known of it and of the heap. -/
theorem aw_loop {σ : Type} (shape : σ → List (Nat × FV)) (I : σ → AH → Prop) (meas : σ → AH → Nat) {b : Code} (s0 : σ) (ha : Agree (shape s0) fr) (h0 : I s0 H)
    (round : ∀ s H, I s H → aw P nt [.code b] (lpost P nt shape I meas (meas s H) k Q) (FR.ofL (shape s)) H) : aw P nt (.code (.loop b) :: k) Q fr H := by
  have key : ∀ n s H fr, meas s H < n → I s H → Agree (shape s) fr → arounds (awp P nt b) (kont P nt k Q) n fr H := by
    intro n
    induction n with
    | zero => intro s H fr h; omega
    | succ n ih =>
      intro s H fr hm hI hA
      refine ⟨FR.ofL (shape s), agree_weak hA, ?_⟩
      have hr := round s H hI
      have e : (kont P nt [] (lpost P nt shape I meas (meas s H) k Q)) = lpost P nt shape I meas (meas s H) k Q := by funext e; cases e <;> rfl
      have hr' : awp P nt b (lpost P nt shape I meas (meas s H) k Q) (FR.ofL (shape s)) H := by rw [← e]; exact hr
      refine awp_mono ?_ hr'
      intro e fr' H' hq
      cases e <;> try exact hq
      obtain ⟨s', h1, h2, h3⟩ := hq
      exact ih s' H' fr' (by omega) h2 h1
  exact ⟨meas s0 H + 1, key _ s0 H fr (by omega) h0 ha⟩

/-- A LOOP, with what is known kept out of simp's sight. -/
theorem aw_loopI {σ : Type} (shape : σ → List (Nat × FV)) (I0 : σ → AH → Prop) (meas : σ → AH → Nat) {b : Code} (s0 : σ) (ha : Agree (shape s0) fr) (h0 : I0 s0 H)
    (round : ∀ I : σ → AH → Prop, (∀ s H, I0 s H → I s H) → ∀ s H, I0 s H → aw P nt [.code b] (lpost P nt shape I meas (meas s H) k Q) (FR.ofL (shape s)) H) : aw P nt (.code (.loop b) :: k) Q fr H :=
  aw_loop shape I0 meas s0 ha h0 (round I0 fun _ _ h => h)

attribute [congr] awl_congr awb_congr awbs_congr putR_congr stA_congr stV_congr awcl_congr

end
end Go.Am
