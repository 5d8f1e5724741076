/-
  The pure machine, part V: the laws by which the machine is run: places, operands, calls.
  No condition.
-/
import Derived.Test.YthdjiekgolgmfaaPmU
namespace Go.Pm
open Go.Am

section
variable {P : Program} {c co : Cfg} {k : List PIt} {Q : Exit → PFr → Prop} {pf : PFr}

-- places
@[go_sem] theorem rootOf_v {x : PV} : rootOf (.v x) = some x := (rfl)
@[go_sem] theorem rootOf_bl {row : List PV} : rootOf (.bl row) = some (.bx row) := (rfl)
@[go_sem] theorem getAt_eq {s : Nat} {p : Path} : getAt pf s p = (rootOf (pf s)).bind (getP · p) := (rfl)
@[go_sem] theorem getP_nil {x : PV} : getP x [] = some x := (rfl)
@[go_sem] theorem getP_cons {x : PV} {a : Nat × Nat} {p : Path} : getP x (a :: p) = (stepP x a).bind (getP · p) := (rfl)
@[go_sem] theorem stepP_sl {es : Nat} {rows : List (List PV)} {a : Nat × Nat} : stepP (.sl true es rows) a = (rows[a.1]?).bind (·[a.2]?) := (rfl)
@[go_sem] theorem stepP_bx {row : List PV} {j : Nat} : stepP (.bx row) (0, j) = row[j]? := (rfl)
@[go_sem] theorem rowC_sl {i es : Nat} {rows : List (List PV)} : rowC i (.sl true es rows) = rows[i]? := (rfl)
@[go_sem] theorem rowC_bx {row : List PV} : rowC 0 (.bx row) = some row := (rfl)
@[go_sem] theorem rowAt_eq {s i : Nat} {p : Path} : rowAt pf s p i = (getAt pf s p).bind (rowC i) := (rfl)
@[go_sem] theorem toRoot_v {x y : PV} : toRoot (.v x) y = some (.v y) := (rfl)
@[go_sem] theorem toRoot_bl {r r' : List PV} : toRoot (.bl r) (.bx r') = some (.bl r') := (rfl)
@[go_sem] theorem putAtP_eq {s i j : Nat} {p : Path} {xs : List PV} : putAtP pf s p i j xs = (rootOf (pf s)).bind fun x => (modP x p (putC i j xs)).bind fun x' => (toRoot (pf s) x').map fun y => (pf.upd s y).kill s (p.length + 1) := (rfl)
@[go_sem] theorem setAtP_0 {s : Nat} {y : PV} : setAtP pf s [] y = some ((pf.upd s (.v y)).kill s 0) := (rfl)
@[go_sem] theorem setAtP_1 {s : Nat} {a : Nat × Nat} {y : PV} : setAtP pf s [a] y = putAtP pf s [] a.1 a.2 [y] := (rfl)
@[go_sem] theorem setAtP_2 {s : Nat} {a b : Nat × Nat} {y : PV} : setAtP pf s [a, b] y = putAtP pf s [a] b.1 b.2 [y] := (rfl)
@[go_sem] theorem setAtP_3 {s : Nat} {a b d : Nat × Nat} {y : PV} : setAtP pf s [a, b, d] y = putAtP pf s [a, b] d.1 d.2 [y] := (rfl)
@[go_sem] theorem modP_nil {x : PV} {f : PV → Option PV} : modP x [] f = f x := (rfl)
@[go_sem] theorem modP_cons {x : PV} {a : Nat × Nat} {p : Path} {f : PV → Option PV} : modP x (a :: p) f = (stepP x a).bind fun y => (modP y p f).map (setS x a) := (rfl)
@[go_sem] theorem setS_sl {es : Nat} {rows : List (List PV)} {a : Nat × Nat} {y : PV} : setS (.sl true es rows) a y = .sl true es (rows.set a.1 ((rows.getD a.1 []).set a.2 y)) := (rfl)
@[go_sem] theorem setS_bx {row : List PV} {a : Nat × Nat} {y : PV} : setS (.bx row) a y = .bx (row.set a.2 y) := (rfl)
@[go_sem] theorem putC_sl {i j es : Nat} {xs : List PV} {rows : List (List PV)} : putC i j xs (.sl true es rows) = (rows[i]?).bind fun r => (putL r j xs).map fun r' => .sl true es (rows.set i r') := (rfl)
@[go_sem] theorem putC_bx {j : Nat} {xs row : List PV} : putC 0 j xs (.bx row) = (putL row j xs).map .bx := (rfl)
@[go_sem] theorem putL_nil {cs : List PV} {n : Nat} : putL cs n [] = some cs := by cases cs <;> rfl
@[go_sem] theorem putL_s {c : PV} {cs : List PV} {n : Nat} {x : PV} {xs : List PV} : putL (c :: cs) (n + 1) (x :: xs) = (putL cs n (x :: xs)).map (c :: ·) := (rfl)
@[go_sem] theorem putL_z {c : PV} {cs : List PV} {x : PV} {xs : List PV} : putL (c :: cs) 0 (x :: xs) = (putL cs 0 xs).map (x :: ·) := (rfl)

-- addresses, reading
@[go_sem] theorem adr_tmp {t : Tmp} : adr pf (.tmp t) = adF pf t (pf t) := (rfl)
@[go_sem] theorem adF_bl {t : Nat} {row : List PV} : adF pf t (.bl row) = some (.pl t [] 0 0) := (rfl)
@[go_sem] theorem adF_pt {t s i j : Nat} {p : Path} : adF pf t (.pt s p i j) = some (.pl s p i j) := (rfl)
@[go_sem] theorem adF_v {t : Nat} {x : PV} : adF pf t (.v x) = adV t x := (rfl)
@[go_sem] theorem adF_rf {t s : Nat} {p : Path} : adF pf t (.rf s p) = (getAt pf s p).bind (adR s p) := (rfl)
@[go_sem] theorem adV_bx {t : Nat} {row : List PV} : adV t (.bx row) = some (.pl t [] 0 0) := (rfl)
@[go_sem] theorem adV_fp {t : Nat} {row : List PV} : adV t (.fp row) = some (.fz row) := (rfl)
@[go_sem] theorem adR_bx {s : Nat} {p : Path} {row : List PV} : adR s p (.bx row) = some (.pl s p 0 0) := (rfl)
@[go_sem] theorem adR_fp {s : Nat} {p : Path} {row : List PV} : adR s p (.fp row) = some (.fz row) := (rfl)
@[go_sem] theorem adPF_pl {s i j : Nat} {p : Path} : adPF (.pl s p i j) = .pt s p i j := (rfl)
@[go_sem] theorem adPF_fz {row : List PV} : adPF (.fz row) = .v (.fp row) := (rfl)
@[go_sem] theorem adAdd_pl {o s i j : Nat} {p : Path} : adAdd o (.pl s p i j) = some (.pl s p i (j + o)) := (rfl)
@[go_sem] theorem adAdd_fz {o : Nat} {row : List PV} : adAdd o (.fz row) = if o ≤ row.length then some (.fz (row.drop o)) else none := (rfl)
@[go_sem] theorem ldA_pl {tz : Bool × Nat} {s i j : Nat} {p : Path} : ldA tz pf (.pl s p i j) = (rowAt pf s p i).bind (ldRow tz s p i j) := (rfl)
@[go_sem] theorem ldA_fz {tz : Bool × Nat} {row : List PV} : ldA tz pf (.fz row) = ldFz tz row := (rfl)
@[go_sem] theorem ldRow_t {sz s i j : Nat} {p : Path} {row : List PV} : ldRow (true, sz) s p i j row = if j + sz ≤ row.length then some (if ((row.drop j).take sz).any hasO = true then .ra s p i j sz else .v (.agg ((row.drop j).take sz))) else none := (rfl)
def ldH (s : Nat) (p : Path) (i j : Nat) (x : Option PV) : Option PF := x.map fun x => if hasO x = true then .rf s (p ++ [(i, j)]) else .v x
@[go_sem] theorem ldH_some {s i j : Nat} {p : Path} {x : PV} : ldH s p i j (some x) = some (if hasO x = true then .rf s (p ++ [(i, j)]) else .v x) := (rfl)
@[go_sem] theorem ldRow_f {sz s i j : Nat} {p : Path} {row : List PV} : ldRow (false, sz) s p i j row = ldH s p i j row[j]? := by
  have : row[j]? = (row.drop j)[0]? := by rw [List.getElem?_drop]; rfl
  rw [this]
  unfold ldRow ldH
  cases row.drop j <;> rfl
@[go_sem] theorem ldFz_t {sz : Nat} {row : List PV} : ldFz (true, sz) row = if sz ≤ row.length then some (.v (.agg (row.take sz))) else none := (rfl)
@[go_sem] theorem ldFz_f {sz : Nat} {row : List PV} : ldFz (false, sz) row = (row[0]?).map .v := by cases row <;> rfl
@[go_sem] theorem sbO_tmp {t : Tmp} : sbO pf (.tmp t) = sbF pf t (pf t) := (rfl)
@[go_sem] theorem sbF_v {t : Nat} {x : PV} : sbF pf t (.v x) = sbV t [] x := (rfl)
@[go_sem] theorem sbF_rf {t s : Nat} {p : Path} : sbF pf t (.rf s p) = (getAt pf s p).bind (sbV s p) := (rfl)
@[go_sem] theorem sbF_rv {t s lo hi : Nat} {p : Path} : sbF pf t (.rv s p lo hi) = (getAt pf s p).bind (sbW s p lo hi) := (rfl)
@[go_sem] theorem sbV_t {s es : Nat} {p : Path} {rows : List (List PV)} : sbV s p (.sl true es rows) = some (.own s p 0 rows.length es) := (rfl)
@[go_sem] theorem sbV_f {s es : Nat} {p : Path} {rows : List (List PV)} : sbV s p (.sl false es rows) = some (.fz es rows) := (rfl)
@[go_sem] theorem sbW_t {s es lo hi : Nat} {p : Path} {rows : List (List PV)} : sbW s p lo hi (.sl true es rows) = if lo ≤ hi ∧ hi ≤ rows.length then some (.own s p lo (hi - lo) es) else none := (rfl)
@[go_sem] theorem sbW_f {s es lo hi : Nat} {p : Path} {rows : List (List PV)} : sbW s p lo hi (.sl false es rows) = if lo ≤ hi ∧ hi ≤ rows.length then some (.fz es ((rows.take hi).drop lo)) else none := (rfl)
@[go_sem] theorem ixS_int {es0 : Nat} {j : IntKind} {n : Int} {x : SB} : ixS es0 (some (.int j n)) x = sbAt es0 n x := (rfl)
@[go_sem] theorem sbAt_own {es0 es s lo n : Nat} {p : Path} {j : Int} : sbAt es0 j (.own s p lo n es) = if es = es0 ∧ 0 ≤ j ∧ j < n then some (.pl s p (lo + j.toNat) 0) else none := (rfl)
@[go_sem] theorem sbAt_fz {es0 es : Nat} {rows : List (List PV)} {j : Int} : sbAt es0 j (.fz es rows) = if es = es0 ∧ 0 ≤ j then (rows[j.toNat]?).map .fz else none := (rfl)
@[go_sem] theorem ixA_int {len es : Nat} {j : IntKind} {n : Int} {ad : AD} : ixA len es (some (.int j n)) ad = if 0 ≤ n ∧ n < len then adAdd (n.toNat * es) ad else none := (rfl)
@[go_sem] theorem contF_v {x : PV} : contF pf (.v x) = some x := (rfl)
@[go_sem] theorem contF_rf {s : Nat} {p : Path} : contF pf (.rf s p) = getAt pf s p := (rfl)
@[go_sem] theorem contF_rv {s lo hi : Nat} {p : Path} : contF pf (.rv s p lo hi) = (getAt pf s p).bind (rvCut lo hi) := (rfl)
@[go_sem] theorem contF_ra {s i j n : Nat} {p : Path} : contF pf (.ra s p i j n) = ((getAt pf s p).bind (rowC i)).bind (raCut j n) := (rfl)
@[go_sem] theorem contF_pt {s i j : Nat} {p : Path} : contF pf (.pt s p i j) = none := (rfl)
@[go_sem] theorem rvCut_sl {lo hi es : Nat} {o : Bool} {rows : List (List PV)} : rvCut lo hi (.sl o es rows) = if lo ≤ hi ∧ hi ≤ rows.length then some (.sl o es ((rows.take hi).drop lo)) else none := (rfl)
@[go_sem] theorem raCut_eq {j n : Nat} {r : List PV} : raCut j n r = if j + n ≤ r.length then some (.agg ((r.drop j).take n)) else none := (rfl)
@[go_sem] theorem lenV_sl {o : Bool} {es : Nat} {rows : List (List PV)} : lenV (.sl o es rows) = some rows := (rfl)
@[go_sem] theorem rdB_none : rdB pf none = some none := (rfl)
def rdBV : Option Value → Option (Option Nat)
  | some (.int _ n) => if 0 ≤ n then some (some n.toNat) else none
  | _ => none
@[go_sem] theorem rdB_some {x : Operand} : rdB pf (some x) = rdBV (rdS pf x) := by
  unfold rdB rdBV
  simp only []
  generalize rdS pf x = y
  cases y with
  | none => rfl
  | some v => cases v <;> rfl
@[go_sem] theorem rdBV_int {j : IntKind} {n : Int} : rdBV (some (.int j n)) = if 0 ≤ n then some (some n.toNat) else none := (rfl)
@[go_sem] theorem slF_v {es l t : Nat} {h : Option Nat} {x : PV} : slF es l h pf t (.v x) = slV es l h (fun a b => .rv t [] a b) x := (rfl)
@[go_sem] theorem slF_rf {es l t s : Nat} {p : Path} {h : Option Nat} : slF es l h pf t (.rf s p) = (getAt pf s p).bind (slV es l h fun a b => .rv s p a b) := (rfl)
@[go_sem] theorem slF_rv {es l t s lo hi : Nat} {p : Path} {h : Option Nat} : slF es l h pf t (.rv s p lo hi) = (getAt pf s p).bind (slW es l h s p lo hi) := (rfl)
@[go_sem] theorem slV_t {es0 es l : Nat} {h : Option Nat} {y : Nat → Nat → PF} {rows : List (List PV)} : slV es0 l h y (.sl true es rows) = if es = es0 ∧ l ≤ h.getD rows.length ∧ h.getD rows.length ≤ rows.length then some (y l (h.getD rows.length)) else none := (rfl)
@[go_sem] theorem slV_f {es0 es l : Nat} {h : Option Nat} {y : Nat → Nat → PF} {rows : List (List PV)} : slV es0 l h y (.sl false es rows) = if es = es0 ∧ l ≤ h.getD rows.length ∧ h.getD rows.length ≤ rows.length then some (.v (.sl false es ((rows.take (h.getD rows.length)).drop l))) else none := (rfl)
@[go_sem] theorem slW_t {es0 es l s lo hi : Nat} {p : Path} {h : Option Nat} {rows : List (List PV)} : slW es0 l h s p lo hi (.sl true es rows) = if (es = es0 ∧ lo ≤ hi ∧ hi ≤ rows.length) ∧ l ≤ h.getD (hi - lo) ∧ h.getD (hi - lo) ≤ hi - lo then some (.rv s p (lo + l) (lo + h.getD (hi - lo))) else none := (rfl)
@[go_sem] theorem slW_f {es0 es l s lo hi : Nat} {p : Path} {h : Option Nat} {rows : List (List PV)} : slW es0 l h s p lo hi (.sl false es rows) = if (es = es0 ∧ lo ≤ hi ∧ hi ≤ rows.length) ∧ l ≤ h.getD (hi - lo) ∧ h.getD (hi - lo) ≤ hi - lo then some (.v (.sl false es ((rows.take (lo + h.getD (hi - lo))).drop (lo + l)))) else none := (rfl)

-- taking
@[go_sem] theorem takeP_tmp {e : Nat} {t : Tmp} : takeP e pf (.tmp t) = takeF pf t (pf t) := (rfl)
@[go_sem] theorem takeP_const {e : Nat} {v : Value} (h : okConst v = true) : takeP e pf (.const v) = some (ofCe e v, pf) := by simp [takeP, h]
@[go_sem] theorem takeP_func {e : Nat} {g : FuncId} : takeP e pf (.func g) = some (.func (.func g) [] [], pf) := (rfl)
@[go_sem] theorem takeF_v {t : Nat} {x : PV} : takeF pf t (.v x) = takeV pf t x := (rfl)
@[go_sem] theorem takeF_ls {t es : Nat} {rows : List (List PV)} : takeF pf t (.ls es rows) = some (.sl true es rows, (pf.upd t jP).kill t 0) := (rfl)
@[go_sem] theorem takeF_rf {t s : Nat} {p : Path} : takeF pf t (.rf s p) = takeR pf s p (getAt pf s p) := (rfl)
@[go_sem] theorem takeF_rv {t s lo hi : Nat} {p : Path} : takeF pf t (.rv s p lo hi) = takeRv pf s p lo hi (getAt pf s p) := (rfl)
@[go_sem] theorem takeF_ra {t s i j n : Nat} {p : Path} : takeF pf t (.ra s p i j n) = takeRa pf s p i j (contF pf (.ra s p i j n)) := (rfl)
@[go_sem] theorem takeV_eq {t : Nat} {x : PV} (h : isJ x = false) : takeV pf t x = setJ (hasO x) x pf t [] := by simp [takeV, h]
@[go_sem] theorem takeR_eq {s : Nat} {p : Path} {x : PV} (h : isJ x = false) : takeR pf s p (some x) = setJ (hasO x) x pf s p := by simp [takeR, h]
@[go_sem] theorem setJ_f {x : PV} {s : Nat} {p : Path} : setJ false x pf s p = some (x, pf) := (rfl)
@[go_sem] theorem setJ_t {x : PV} {s : Nat} {p : Path} : setJ true x pf s p = (setAtP pf s p .junk).map fun pf' => (x, pf') := (rfl)
@[go_sem] theorem takeRv_t {s lo hi es : Nat} {p : Path} {rows : List (List PV)} : takeRv pf s p lo hi (some (.sl true es rows)) = if lo ≤ hi ∧ hi ≤ rows.length then
      if lo = 0 then (setAtP pf s p .junk).map fun pf' => (.sl true es (rows.take hi), pf')
      else (setAtP pf s p (drop (.sl true es rows))).map fun pf' => (.sl false es (((rows.map (·.map drop)).take hi).drop lo), pf')
    else none := rfl
@[go_sem] theorem takeRv_f {s lo hi es : Nat} {p : Path} {rows : List (List PV)} : takeRv pf s p lo hi (some (.sl false es rows)) = if lo ≤ hi ∧ hi ≤ rows.length then some (.sl false es ((rows.take hi).drop lo), pf) else none := (rfl)
@[go_sem] theorem takeRa_eq {s i j : Nat} {p : Path} {xs : List PV} : takeRa pf s p i j (some (.agg xs)) = if hasO (.agg xs) = true then (putAtP pf s p i j (xs.map junkO)).map fun pf' => (.agg xs, pf') else some (.agg xs, pf) := (rfl)
@[go_sem] theorem junkO_eq {x : PV} : junkO x = if hasO x = true then .junk else x := (rfl)
@[go_sem] theorem takel_nil : takel pf [] = some ([], pf) := (rfl)
@[go_sem] theorem takel_cons {x : Nat × Operand} {xs : List (Nat × Operand)} : takel pf (x :: xs) = (takeP x.1 pf x.2).bind fun a => (takel a.2 xs).map fun b => (a.1 :: b.1, b.2) := (rfl)
@[go_sem] theorem frzl_nil : frzl pf [] = some ([], pf) := (rfl)
@[go_sem] theorem frzl_cons {x : Operand} {xs : List Operand} : frzl pf (x :: xs) = (frzP pf x).bind fun a => (frzl a.2 xs).map fun b => (a.1 :: b.1, b.2) := (rfl)
@[go_sem] theorem frzP_tmp {t : Tmp} : frzP pf (.tmp t) = frzF pf t (pf t) := (rfl)
@[go_sem] theorem frzP_const {v : Value} (h : okConst v = true) : frzP pf (.const v) = some (drop (ofCe 0 v), pf) := by simp [frzP, h]
@[go_sem] theorem frzP_func {g : FuncId} : frzP pf (.func g) = some (.func (.func g) [] [], pf) := (rfl)
@[go_sem] theorem frzF_v {t : Nat} {x : PV} : frzF pf t (.v x) = frzV pf t [] x := (rfl)
@[go_sem] theorem frzF_rf {t s : Nat} {p : Path} : frzF pf t (.rf s p) = (getAt pf s p).bind (frzV pf s p) := (rfl)
@[go_sem] theorem frzV_eq {s : Nat} {p : Path} {x : PV} (h : isJ x = false) : frzV pf s p x = if hasO x = true then (setAtP pf s p (drop x)).map fun pf' => (drop x, pf') else some (x, pf) := by simp [frzV, h]
@[go_sem] theorem pfrz_v {x : PV} : pfrz pf (.v x) = some (.v (drop x), pf) := (rfl)
@[go_sem] theorem pfrz_rf {s : Nat} {p : Path} : pfrz pf (.rf s p) = fzRf pf s p (getAt pf s p) := (rfl)
@[go_sem] theorem pfrz_ra {s i j n : Nat} {p : Path} : pfrz pf (.ra s p i j n) = fzRa pf s p i j (contF pf (.ra s p i j n)) := (rfl)
@[go_sem] theorem pfrz_pt {s i j : Nat} {p : Path} : pfrz pf (.pt s p i j) = some (.pt s p i j, pf) := (rfl)
@[go_sem] theorem pfrz_rv {s lo hi : Nat} {p : Path} : pfrz pf (.rv s p lo hi) = some (.rv s p lo hi, pf) := (rfl)
@[go_sem] theorem fzRf_some {s : Nat} {p : Path} {x : PV} (h : isJ x = false) : fzRf pf s p (some x) = (setAtP pf s p (drop x)).map fun pf' => (.v (drop x), pf') := by simp [fzRf, h]
@[go_sem] theorem fzRa_some {s i j : Nat} {p : Path} {xs : List PV} : fzRa pf s p i j (some (.agg xs)) = if hasO (.agg xs) = true then (putAtP pf s p i j (xs.map drop)).map fun pf' => (.v (.agg (xs.map drop)), pf') else some (.v (.agg xs), pf) := (rfl)
@[go_sem] theorem okSt_eq {sz : Nat} {x : PV} : okSt sz x = (cellish x && decide ((pcells x).length = sz) && decide (sz ≠ 0) && (pcells x).all solidP) := (rfl)
@[go_sem] theorem stA_pl {s i j : Nat} {p : Path} {cells : List PV} : stA pf cells (.pl s p i j) = putAtP pf s p i j cells := (rfl)
@[go_sem] theorem okPart_eq {size : Nat} {x : PV} : okPart size x = (cellish x && decide ((pcells x).length = size) && decide (size ≠ 0)) := (rfl)
@[go_sem] theorem fillP_nil {place : Nat → Option (Nat × Nat)} {cs : List PV} : fillP place [] cs = some cs := (rfl)
@[go_sem] theorem fillP_cons {place : Nat → Option (Nat × Nat)} {i : Nat} {x : PV} {r : List (Nat × PV)} {cs : List PV} : fillP place ((i, x) :: r) cs = (place i).bind fun o => if okPart o.2 x = true then (putL cs o.1 (pcells x)).bind (fillP place r) else none := (rfl)
@[go_sem] theorem fillS_nil {es : Nat} {rows : List (List PV)} : fillS es [] rows = some rows := (rfl)
@[go_sem] theorem fillS_cons {es i : Nat} {x : PV} {r : List (Nat × PV)} {rows : List (List PV)} : fillS es ((i, x) :: r) rows = if okPart es x = true ∧ i < rows.length then fillS es r (rows.set i (pcells x)) else none := (rfl)
@[go_sem] theorem bsR_t {es es' : Nat} {rows : List (List PV)} : bsR es (.sl true es' rows) = if es' = es then some rows else none := (rfl)
@[go_sem] theorem srO_tmp {es : Nat} {t : Tmp} : srO es pf (.tmp t) = srF es pf t (pf t) := (rfl)
@[go_sem] theorem srO_nil {es : Nat} : srO es pf (.const (.slice none 0 0)) = some ([], pf) := (rfl)
@[go_sem] theorem srF_ls {es es' t : Nat} {rows : List (List PV)} : srF es pf t (.ls es' rows) = if es' = es then some (rows, (pf.upd t jP).kill t 0) else none := (rfl)
@[go_sem] theorem srF_v {es t : Nat} {x : PV} : srF es pf t (.v x) = (srV es x).map fun rows => (rows, pf) := (rfl)
@[go_sem] theorem srF_rf {es t s : Nat} {p : Path} : srF es pf t (.rf s p) = (contF pf (.rf s p)).bind fun x => (srV es x).map fun rows => (rows, pf) := (rfl)
@[go_sem] theorem srF_rv {es t s lo hi : Nat} {p : Path} : srF es pf t (.rv s p lo hi) = (contF pf (.rv s p lo hi)).bind fun x => (srV es x).map fun rows => (rows, pf) := (rfl)
@[go_sem] theorem srV_t {es es' : Nat} {rows : List (List PV)} : srV es (.sl true es' rows) = if es' = es ∧ noO rows = true then some rows else none := (rfl)
@[go_sem] theorem srV_f {es es' : Nat} {rows : List (List PV)} : srV es (.sl false es' rows) = if es' = es then some rows else none := (rfl)
@[go_sem] theorem noO_nil : noO [] = true := (rfl)
@[go_sem] theorem noO_cons {r : List PV} {rows : List (List PV)} : noO (r :: rows) = (r.all (fun x => !hasO x) && noO rows) := (rfl)
@[go_sem] theorem noO_map {α : Type} {f : α → List PV} {l : List α} (h : ∀ x, (f x).all (fun y => !hasO y) = true) : noO (l.map f) = true := by simp only [noO, List.all_map]; exact List.all_eq_true.2 fun x _ => h x
@[go_sem] theorem allSol_nil : allSol [] = true := (rfl)
@[go_sem] theorem allSol_cons {r : List PV} {rows : List (List PV)} : allSol (r :: rows) = (r.all solidP && allSol rows) := (rfl)
@[go_sem] theorem allSol_map {α : Type} {f : α → List PV} {l : List α} (h : ∀ x, (f x).all solidP = true) : allSol (l.map f) = true := by simp only [allSol, List.all_map]; exact List.all_eq_true.2 fun x _ => h x

-- calls
@[go_sem] theorem argEs_nil {ts : List TypeId} : argEs P [] ts = [] := (rfl)
@[go_sem] theorem argEs_cons {x : Operand} {xs : List Operand} {t : TypeId} {ts : List TypeId} : argEs P (x :: xs) (t :: ts) = (ezT P t, x) :: argEs P xs ts := (rfl)
@[go_sem] theorem argl_nil : argl pf [] = some ([], pf) := (rfl)
@[go_sem] theorem argl_cons {m : Md} {e : Nat} {x : Operand} {as : List (Md × Nat × Operand)} : argl pf ((m, e, x) :: as) = (argS pf m e x).bind fun y => (argl y.2 as).map fun z => (y.1 :: z.1, z.2) := (rfl)
@[go_sem] theorem argS_sh {e : Nat} {x : Operand} (h : shk pf x = true) : argS pf .sh e x = some (.junk, shO pf x) := by simp [argS, h]
@[go_sem] theorem argS_mv {e : Nat} {x : Operand} : argS pf .mv e x = takeP e pf x := (rfl)
@[go_sem] theorem argS_io {e : Nat} {x : Operand} : argS pf .io e x = ioO pf x := (rfl)
@[go_sem] theorem shk_tmp {t : Tmp} : shk pf (.tmp t) = shkF (pf t) := (rfl)
@[go_sem] theorem shk_const {v : Value} : shk pf (.const v) = okConst v := (rfl)
@[go_sem] theorem shk_func {g : FuncId} : shk pf (.func g) = true := (rfl)
@[go_sem] theorem shkF_v {x : PV} : shkF (.v x) = !isJ x := (rfl)
@[go_sem] theorem shkF_ls {es : Nat} {rows : List (List PV)} : shkF (.ls es rows) = true := (rfl)
@[go_sem] theorem shkF_rf {s : Nat} {p : Path} : shkF (.rf s p) = true := (rfl)
@[go_sem] theorem shkF_rv {s lo hi : Nat} {p : Path} : shkF (.rv s p lo hi) = true := (rfl)
@[go_sem] theorem shkF_ra {s i j n : Nat} {p : Path} : shkF (.ra s p i j n) = true := (rfl)
@[go_sem] theorem shO_tmp {t : Tmp} : shO pf (.tmp t) = shF pf t (pf t) := (rfl)
@[go_sem] theorem shO_const {v : Value} : shO pf (.const v) = pf := (rfl)
@[go_sem] theorem shO_func {g : FuncId} : shO pf (.func g) = pf := (rfl)
@[go_sem] theorem shF_ls {t es : Nat} {rows : List (List PV)} : shF pf t (.ls es rows) = (pf.upd t (.v (.sl true es rows))).kill t 0 := (rfl)
@[go_sem] theorem shF_v {t : Nat} {x : PV} : shF pf t (.v x) = pf := (rfl)
@[go_sem] theorem shF_rf {t s : Nat} {p : Path} : shF pf t (.rf s p) = pf := (rfl)
@[go_sem] theorem shF_rv {t s lo hi : Nat} {p : Path} : shF pf t (.rv s p lo hi) = pf := (rfl)
@[go_sem] theorem shF_ra {t s i j n : Nat} {p : Path} : shF pf t (.ra s p i j n) = pf := (rfl)
@[go_sem] theorem cargs_nil : cargs pf [] [] = some [] := (rfl)
@[go_sem] theorem cargs_cons {a : Md × Nat × Operand} {as : List (Md × Nat × Operand)} {y : PV} {ys : List PV} : cargs pf (a :: as) (y :: ys) = (carg pf a y).bind fun b => (cargs pf as ys).map fun bs => b :: bs := (rfl)
@[go_sem] theorem carg_sh {e : Nat} {x : Operand} {y : PV} : carg pf (.sh, e, x) y = (shC (shV e pf x)).map fun z => (.sh, z) := (rfl)
@[go_sem] theorem carg_mv {e : Nat} {x : Operand} {y : PV} : carg pf (.mv, e, x) y = some (.mv, y) := (rfl)
@[go_sem] theorem carg_io {e : Nat} {x : Operand} {y : PV} : carg pf (.io, e, x) y = some (.io, y) := (rfl)
@[go_sem] theorem shC_some {x : PV} (h : isJ x = false) : shC (some x) = some (drop x) := by simp [shC, h]
@[go_sem] theorem shV_tmp {e : Nat} {t : Tmp} : shV e pf (.tmp t) = contF pf (pf t) := (rfl)
@[go_sem] theorem shV_const {e : Nat} {v : Value} (h : okConst v = true) : shV e pf (.const v) = some (ofCe e v) := by simp [shV, h]
@[go_sem] theorem shV_func {e : Nat} {g : FuncId} : shV e pf (.func g) = some (.func (.func g) [] []) := (rfl)
@[go_sem] theorem shOwn_t {e : Nat} {t : Tmp} : shOwn pf (.sh, e, .tmp t) = (contF pf (pf t)).any hasO := (rfl)
@[go_sem] theorem shOwn_c {e : Nat} {v : Value} {m : Md} : shOwn pf (m, e, .const v) = false := by cases m <;> rfl
@[go_sem] theorem shOwn_f {e : Nat} {g : FuncId} {m : Md} : shOwn pf (m, e, .func g) = false := by cases m <;> rfl
@[go_sem] theorem shOwn_mv {e : Nat} {x : Operand} : shOwn pf (.mv, e, x) = false := (rfl)
@[go_sem] theorem shOwn_io {e : Nat} {x : Operand} : shOwn pf (.io, e, x) = false := (rfl)
@[go_sem] theorem back_nil {nt : Nat} {ys : List PV} : back nt pf [] ys = some pf := (rfl)
@[go_sem] theorem back_cons {nt : Nat} {a : Md × Nat × Operand} {as : List (Md × Nat × Operand)} {y : PV} {ys : List PV} : back nt pf (a :: as) (y :: ys) = (back1 nt pf a y).bind fun pf' => back nt pf' as ys := (rfl)
@[go_sem] theorem back1_sh {nt e : Nat} {x : Operand} {y : PV} : back1 nt pf (.sh, e, x) y = some pf := by cases x <;> rfl
@[go_sem] theorem back1_mv {nt e : Nat} {x : Operand} {y : PV} : back1 nt pf (.mv, e, x) y = some pf := by cases x <;> rfl
@[go_sem] theorem back1_io {nt e : Nat} {t : Tmp} {y : PV} : back1 nt pf (.io, e, .tmp t) y = backF nt pf t y (pf t) := (rfl)
@[go_sem] theorem backF_rf {nt t s : Nat} {p : Path} {y : PV} : backF nt pf t y (.rf s p) = setAtQ pf s p y := (rfl)
@[go_sem] theorem backF_v {nt t : Nat} {x y : PV} (h : t < nt) : backF nt pf t y (.v x) = setAtQ pf t [] y := by simp [backF, h]
@[go_sem] theorem fnO_func {g : FuncId} : fnO pf (.func g) = some (g, [], []) := (rfl)
@[go_sem] theorem fnO_tmp {t : Tmp} : fnO pf (.tmp t) = fnF (pf t) := (rfl)
@[go_sem] theorem fnF_v {g : FuncId} {xs us : List PV} : fnF (.v (.func (.func g) xs us)) = some (g, xs, us) := (rfl)
@[go_sem] theorem ioO_tmp {t : Tmp} : ioO pf (.tmp t) = ioF pf t (pf t) := (rfl)
@[go_sem] theorem killA_app {s t : Nat} : PFr.killA pf s t = Go.Pm.killA s (pf t) := (rfl)
@[go_sem] theorem killA_rf0 {s s' : Nat} : Go.Pm.killA s (.rf s' []) = .rf s' [] := (rfl)
@[go_sem] theorem killA_rf1 {s s' : Nat} {a : Nat × Nat} {p : Path} : Go.Pm.killA s (.rf s' (a :: p)) = killN s 0 (.rf s' (a :: p)) := (rfl)
@[go_sem] theorem killA_v {s : Nat} {x : PV} : Go.Pm.killA s (.v x) = .v x := by simp [Go.Pm.killA, killN, aroot]
@[go_sem] theorem killA_skip {s : Nat} : Go.Pm.killA s .skip = .skip := by simp [Go.Pm.killA, killN, aroot]
@[go_sem] theorem killA_ls {s es : Nat} {r : List (List PV)} : Go.Pm.killA s (.ls es r) = .ls es r := by simp [Go.Pm.killA, killN, aroot]
@[go_sem] theorem killA_bl {s : Nat} {r : List PV} : Go.Pm.killA s (.bl r) = .bl r := by simp [Go.Pm.killA, killN, aroot]
@[go_sem] theorem killA_pt {s s' i j : Nat} {p : Path} : Go.Pm.killA s (.pt s' p i j) = killN s 0 (.pt s' p i j) := (rfl)
@[go_sem] theorem killA_rv {s s' lo hi : Nat} {p : Path} : Go.Pm.killA s (.rv s' p lo hi) = killN s 0 (.rv s' p lo hi) := (rfl)
@[go_sem] theorem killA_ra {s s' i j n : Nat} {p : Path} : Go.Pm.killA s (.ra s' p i j n) = killN s 0 (.ra s' p i j n) := (rfl)
@[go_sem] theorem killA_j {s : Nat} : Go.Pm.killA s jP = jP := by simp [Go.Pm.killA, killN, aroot, jP]
@[go_sem] theorem setAtQ_0 {s : Nat} {y : PV} : setAtQ pf s [] y = some ((pf.upd s (.v y)).killA s) := (rfl)
@[go_sem] theorem setAtQ_s {s : Nat} {a : Nat × Nat} {p : Path} {y : PV} : setAtQ pf s (a :: p) y = setAtP pf s (a :: p) y := (rfl)
@[go_sem] theorem ioF_v {t : Nat} {y : PV} : ioF pf t (.v y) = if hasO y = true then (setAtQ pf t [] .junk).map fun pf' => (y, pf') else none := (rfl)
@[go_sem] theorem ioF_rf {t s : Nat} {p : Path} : ioF pf t (.rf s p) = (getAt pf s p).bind (ioR pf t s p) := (rfl)
@[go_sem] theorem ioR_eq {t s : Nat} {p : Path} {y : PV} : ioR pf t s p y = if hasO y = true then (setAtQ pf s p .junk).map fun pf' => (y, (pf'.kill t 0).upd t (.rf s p)) else none := (rfl)

-- drawn regions
attribute [go_sem] List.map_cons List.map_nil List.getD_cons_zero List.getD_cons_succ
@[go_sem] theorem isc_load {t : TypeId} {a : Operand} : isCallV (.load t a) = false := (rfl)
@[go_sem] theorem exo_load {t : TypeId} {a : Operand} : extOp (.load t a) = true := (rfl)
@[go_sem] theorem isc_fieldAddr {t : TypeId} {x : Operand} {f : Nat} : isCallV (.fieldAddr t x f) = false := (rfl)
@[go_sem] theorem exo_fieldAddr {t : TypeId} {x : Operand} {f : Nat} : extOp (.fieldAddr t x f) = true := (rfl)
@[go_sem] theorem isc_indexAddr {t : TypeId} {x i : Operand} : isCallV (.indexAddr t x i) = false := (rfl)
@[go_sem] theorem exo_indexAddr {t : TypeId} {x i : Operand} : extOp (.indexAddr t x i) = true := (rfl)
@[go_sem] theorem isc_nilCheck {x : Operand} : isCallV (.nilCheck x) = false := (rfl)
@[go_sem] theorem exo_nilCheck {x : Operand} : extOp (.nilCheck x) = true := (rfl)
@[go_sem] theorem isc_alloc {t : TypeId} : isCallV (.alloc t) = false := (rfl)
@[go_sem] theorem exo_alloc {t : TypeId} : extOp (.alloc t) = true := (rfl)
@[go_sem] theorem isc_box {t : TypeId} {x : Operand} : isCallV (.box t x) = false := (rfl)
@[go_sem] theorem exo_box {t : TypeId} {x : Operand} : extOp (.box t x) = true := (rfl)
@[go_sem] theorem isc_buildSlice {t : TypeId} {n : Nat} {ps : Array (Nat × Operand)} : isCallV (.buildSlice t n ps) = false := (rfl)
@[go_sem] theorem exo_buildSlice {t : TypeId} {n : Nat} {ps : Array (Nat × Operand)} : extOp (.buildSlice t n ps) = true := (rfl)
@[go_sem] theorem isc_build {t : TypeId} {ps : Array (Nat × Operand)} : isCallV (.build t ps) = false := (rfl)
@[go_sem] theorem exo_build {t : TypeId} {ps : Array (Nat × Operand)} : extOp (.build t ps) = true := (rfl)
@[go_sem] theorem isc_pick {a b c : Operand} : isCallV (.pick a b c) = false := (rfl)
@[go_sem] theorem exo_pick {a b c : Operand} : extOp (.pick a b c) = true := (rfl)
@[go_sem] theorem isc_makeSlice {t : TypeId} {a b : Operand} : isCallV (.makeSlice t a b) = false := (rfl)
@[go_sem] theorem exo_makeSlice {t : TypeId} {a b : Operand} : extOp (.makeSlice t a b) = true := (rfl)
@[go_sem] theorem isc_makeFunc {f : Fn} {xs ys : Array Operand} : isCallV (.makeFunc f xs ys) = false := (rfl)
@[go_sem] theorem exo_makeFunc {f : Fn} {xs ys : Array Operand} : extOp (.makeFunc f xs ys) = true := (rfl)
@[go_sem] theorem isc_move {x : Operand} : isCallV (.move x) = false := (rfl)
@[go_sem] theorem exo_move {x : Operand} : extOp (.move x) = true := (rfl)
@[go_sem] theorem isc_assign {x : Operand} : isCallV (.assign x) = false := (rfl)
@[go_sem] theorem exo_assign {x : Operand} : extOp (.assign x) = true := (rfl)
@[go_sem] theorem isc_extract {x : Operand} {i : Nat} : isCallV (.extract x i) = false := (rfl)
@[go_sem] theorem exo_extract {x : Operand} {i : Nat} : extOp (.extract x i) = true := (rfl)
@[go_sem] theorem isc_slice {t : TypeId} {x : Operand} {l h m : Option Operand} : isCallV (.slice t x l h m) = false := (rfl)
@[go_sem] theorem exo_slice {t : TypeId} {x : Operand} {l h m : Option Operand} : extOp (.slice t x l h m) = true := (rfl)
@[go_sem] theorem isc_unOp {t : TypeId} {o : UnOp} {x : Operand} : isCallV (.unOp o t x) = false := (rfl)
@[go_sem] theorem exo_unOp {t : TypeId} {o : UnOp} {x : Operand} : extOp (.unOp o t x) = true := (rfl)
@[go_sem] theorem isc_convert {s t : TypeId} {x : Operand} : isCallV (.convert s t x) = false := (rfl)
@[go_sem] theorem exo_convert {s t : TypeId} {x : Operand} : extOp (.convert s t x) = true := (rfl)
@[go_sem] theorem isc_binOp {t u : TypeId} {o : BinOp} {x y : Operand} : isCallV (.binOp o t x y u) = false := (rfl)
@[go_sem] theorem exo_binOp {t u : TypeId} {o : BinOp} {x y : Operand} : extOp (.binOp o t x y u) = true := (rfl)
@[go_sem] theorem isc_index {t : TypeId} {x y : Operand} : isCallV (.index t x y) = false := (rfl)
@[go_sem] theorem exo_index {t : TypeId} {x y : Operand} : extOp (.index t x y) = true := (rfl)
@[go_sem] theorem isc_store {t : TypeId} {a x : Operand} : isCallV (.store t a x) = false := (rfl)
@[go_sem] theorem exo_store {t : TypeId} {a x : Operand} : extOp (.store t a x) = false := (rfl)
@[go_sem] theorem isc_len {xs : Array Operand} {ts : Array TypeId} : isCallV (.call ⟨.builtin .len, xs, ts⟩) = false := (rfl)
@[go_sem] theorem exo_len {xs : Array Operand} {ts : Array TypeId} : extOp (.call ⟨.builtin .len, xs, ts⟩) = true := (rfl)
@[go_sem] theorem isc_append {xs : Array Operand} {ts : Array TypeId} : isCallV (.call ⟨.builtin .append, xs, ts⟩) = false := (rfl)
@[go_sem] theorem exo_append {xs : Array Operand} {ts : Array TypeId} : extOp (.call ⟨.builtin .append, xs, ts⟩) = false := (rfl)
@[go_sem] theorem isc_min {xs : Array Operand} {ts : Array TypeId} : isCallV (.call ⟨.builtin .min, xs, ts⟩) = false := (rfl)
@[go_sem] theorem exo_min {xs : Array Operand} {ts : Array TypeId} : extOp (.call ⟨.builtin .min, xs, ts⟩) = true := (rfl)
@[go_sem] theorem isc_max {xs : Array Operand} {ts : Array TypeId} : isCallV (.call ⟨.builtin .max, xs, ts⟩) = false := (rfl)
@[go_sem] theorem exo_max {xs : Array Operand} {ts : Array TypeId} : extOp (.call ⟨.builtin .max, xs, ts⟩) = true := (rfl)
@[go_sem] theorem pokL_nil {rg : List Nat} {ls : Bool} : pokL pf rg ls [] = true := (rfl)
@[go_sem] theorem pokL_cons {rg : List Nat} {ls : Bool} {t : Nat} {r : List Nat} : pokL pf rg ls (t :: r) = (pokS pf rg ls t (pf t) && pokL pf rg ls r) := (rfl)
@[go_sem] theorem pokS_v {rg : List Nat} {ls : Bool} {t : Nat} {x : PV} : pokS pf rg ls t (.v x) = !isJ x := (rfl)
@[go_sem] theorem pokS_skip {rg : List Nat} {ls : Bool} {t : Nat} : pokS pf rg ls t .skip = true := (rfl)
@[go_sem] theorem pokS_ls {rg : List Nat} {ls : Bool} {t es : Nat} {rows : List (List PV)} : pokS pf rg ls t (.ls es rows) = ls := (rfl)
@[go_sem] theorem pokS_bl {rg : List Nat} {ls : Bool} {t : Nat} {row : List PV} : pokS pf rg ls t (.bl row) = rg.contains t := (rfl)
@[go_sem] theorem pokS_pt {rg : List Nat} {ls : Bool} {t s i j : Nat} {p : Path} : pokS pf rg ls t (.pt s p i j) = (rg.contains s || isVv (pf s)) := (rfl)
@[go_sem] theorem pokS_rf {rg : List Nat} {ls : Bool} {t s : Nat} {p : Path} : pokS pf rg ls t (.rf s p) = isSm (getAt pf s p) := (rfl)
@[go_sem] theorem pokS_rv {rg : List Nat} {ls : Bool} {t s lo hi : Nat} {p : Path} : pokS pf rg ls t (.rv s p lo hi) = true := (rfl)
@[go_sem] theorem pokS_ra {rg : List Nat} {ls : Bool} {t s i j n : Nat} {p : Path} : pokS pf rg ls t (.ra s p i j n) = true := (rfl)
@[go_sem] theorem isVv_v {x : PV} : isVv (.v x) = !isJ x := (rfl)
@[go_sem] theorem isSm_some {x : PV} : isSm (some x) = !isJ x := (rfl)
@[go_sem] theorem pokM_none : pokM pf none = true := (rfl)
@[go_sem] theorem pokM_some {t : Nat} : pokM pf (some t) = pokR pf (pf t) := (rfl)
@[go_sem] theorem pokR_bl {row : List PV} : pokR pf (.bl row) = true := (rfl)
@[go_sem] theorem pokR_skip : pokR pf .skip = true := (rfl)
@[go_sem] theorem pokR_pt {s i j : Nat} : pokR pf (.pt s [] i j) = isBl (pf s) := (rfl)
@[go_sem] theorem isBl_bl {row : List PV} : isBl (.bl row) = true := (rfl)
end
end Go.Pm
