import Derived.Test.YtnbbkiilkaebaaaGreatDoorPmR
namespace Go.Pm
open Go.Am
inductive PIt where
 |code (c:Code)
 |wk (c:Code)
 |ops (pre:List (Option Tmp)) (l:List Oper)
 |dops (pre:List (Option Tmp)) (l:List (DE×Oper))
 |blk (id:Nat)
def zbL (P:Program) (c:Cfg):List PIt→(Exit→PFr→Prop)→Exit→PFr→Prop
 |[],Q,e=>Q e
 |it::k,Q,e=>match e with
  | .normal=>match it with
   | .code x=>pwp P c x (zbL P c k Q)
   | .wk x=>fun pf=>∃pf2,PWeak pf2 pf∧pwp P c x (zbL P c k Q) pf2
   | .ops pre l=>zmN P c pre l (zbL P c k Q .normal)
   | .dops pre l=>zlZ P c pre l (zbL P c k Q .normal)
   | .blk _=>zbL P c k Q .normal
  | .exit id=>match it with
   | .blk i=>if id=i then zbL P c k Q .normal else zbL P c k Q (.exit id)
   |_=>zbL P c k Q (.exit id)
  |e=>zbL P c k Q e
def pw (P:Program) (c:Cfg) (k:List PIt) (Q:Exit→PFr→Prop) (pf:PFr):Prop:=zbL P c k Q .normal pf
section
variable {P:Program}{c:Cfg}{K K2:PFr→Prop}
theorem zv7 (hk:∀pf,K pf→K2 pf) {d:Nat}{x:Option (PF×PFr)}(h:pfz K d x):pfz K2 d x:=by
 cases x with
 |none=>exact h
 |some x=>exact hk _ h
theorem zaz (hk:∀pf,K pf→K2 pf) {d:Option Tmp}{y:PF}{pf:PFr}(h:zbr c K d y pf):zbr c K2 d y pf:=by
 cases d with
 |none=>exact hk _ h
 |some d=>
  refine⟨h.1,?_⟩
  have h2:=h.2
  split at h2
  ·rename_i hh;rw[if_pos hh];exact zv7 hk h2
  ·rename_i hh;rw[if_neg hh];exact hk _ h2
theorem zpG (hk:∀pf,K pf→K2 pf) {d:Option Tmp}{pf:PFr}{x:Option AD}(h:pad c K d pf x):pad c K2 d pf x:=by
 cases x with
 |none=>exact h
 |some x=>exact zaz hk h
theorem zhc (hk:∀pf,K pf→K2 pf) {o:Oper}{pf:PFr}(h:zej P c o K pf):zej P c o K2 pf:=by
 unfold zej at h⊢
 split at h
 ·split at h
  ·exact zaz hk h
  ·exact h
 ·exact h
theorem zoQ (hk:∀pf,K pf→K2 pf) {d:Option Tmp}{r:PV}{x:Option PFr}(h:ztl c d K r x):ztl c d K2 r x:=by
 cases x with
 |none=>exact h
 |some x=>exact zaz hk h
theorem zmt (hk:∀pf,K pf→K2 pf) {f:Operand}{args:List Operand}{ts:List TypeId}{d:Option Tmp}{pf:PFr}{ms:List Md}(h:zk8 P c f args ts d K pf ms):zk8 P c f args ts d K2 pf ms:=by
 refine⟨h.1,?_⟩
 have h2:=h.2
 unfold zrb at h2⊢
 split at h2
 ·unfold zh4 at h2⊢
  split at h2
  ·exact h2.mono fun r outs hh=>⟨hh.1,zoQ hk hh.2⟩
  ·exact h2
 ·exact h2
theorem zru (hk:∀pf,K pf→K2 pf) {f:Operand}{d:Option Tmp}{l:List (Md×Nat×Operand)}{x:Nat×FuncId×List PV}{y:Option (List PV×PFr)}(h:zlK P c f d K l x y):zlK P c f d K2 l x y:=by
 unfold zlK at h⊢
 split at h
 ·refine⟨h.1,?_⟩
  have h2:=h.2
  unfold zh4 at h2⊢
  split at h2
  ·exact h2.mono fun r outs hh=>⟨hh.1,zoQ hk hh.2⟩
  ·exact h2
 ·exact h
theorem ztz (hk:∀pf,K pf→K2 pf) {op:BinOp}{t:TypeId}{x:Operand}{d:Option Tmp}{pf:PFr}(h:zkp P c op t x d K pf):zkp P c op t x d K2 pf:=by
 unfold zkp at h⊢
 split at h
 ·exact⟨h.1,fun b hb=>zaz hk (h.2 b hb)⟩
 ·exact h
theorem ztJ (hk:∀pf,K pf→K2 pf) {s t:TypeId}{x:Operand}{d:Option Tmp}{pf:PFr}(h:zim P c s t x d K pf):zim P c s t x d K2 pf:=by
 unfold zim at h⊢
 split at h
 ·exact⟨h.1,zaz hk h.2⟩
 ·exact h
theorem zkB (hk:∀pf,K pf→K2 pf) {o:Oper}{pf:PFr}(h:pop P c o K pf):pop P c o K2 pf:=by
 unfold pop at h⊢
 split at h
 ·unfold zlR at h⊢
  split at h
  ·unfold zl6 at h⊢
   split at h
   ·exact zaz hk h
   ·exact h
  ·split at h
   ·exact zaz hk h
   ·exact h
 ·unfold zjI at h⊢
  split at h
  ·refine⟨h.1,h.2.1,?_⟩
   have h3:=h.2.2
   unfold ziC at h3⊢
   split at h3
   ·split at h3
    ·exact hk _ h3
    ·exact h3
   ·exact h3
  ·exact h
 ·exact zpG hk h
 ·unfold zj6 at h⊢
  split at h
  ·exact zaz hk h
  ·split at h
   ·exact zaz hk h
   ·exact h
 ·exact zpG hk h
 ·unfold zjH at h⊢
  split at h
  ·refine⟨h.1,?_⟩
   have h3:=h.2
   split at h3
   ·rename_i hh;rw[if_pos hh];exact hk _ h3
   ·rename_i hh;rw[if_neg hh];exact hk _ h3
  ·exact h
 ·unfold zoc at h⊢
  split at h
  ·refine⟨h.1,h.2.1,h.2.2.1,?_⟩
   have h3:=h.2.2.2
   split at h3
   ·rename_i hh;rw[if_pos hh]
    split at h3
    ·rename_i hh;rw[if_pos hh];exact hk _ h3
    ·rename_i hh;rw[if_neg hh];exact hk _ h3
   ·rename_i hh;rw[if_neg hh];exact hk _ h3
  ·exact h
 ·unfold zol at h⊢
  split at h
  ·rename_i hm
   rw[if_pos hm]
   unfold zn1 at h⊢
   split at h
   ·exact zaz hk h
   ·exact h
  rename_i hm
  rw[if_neg hm]
  split at h
  ·refine⟨h.1,?_⟩
   have h3:=h.2
   unfold zpB at h3⊢
   split at h3
   ·exact⟨h3.1,hk _ h3.2⟩
   ·exact h3
  ·exact h
 ·unfold zjF at h⊢
  split at h
  ·unfold zts at h⊢
   split at h
   ·exact zaz hk h
   ·exact h
  ·exact h
 ·unfold zlO zsP at h⊢
  split at h
  ·split at h
   ·exact zaz hk h
   ·exact h
  ·split at h
   ·exact zaz hk h
   ·exact h
  ·exact h
 ·unfold zl0 at h⊢
  split at h
  ·unfold ztW at h⊢
   split at h
   ·exact⟨h.1,zaz hk h.2⟩
   ·exact h
  ·exact h
 ·unfold zlX at h⊢
  split at h
  ·rename_i hb
   rw[if_pos hb]
   split at h
   ·exact zaz hk h
   ·exact h
  ·rename_i hb
   rw[if_neg hb]
   split at h
   ·exact zaz hk h
   ·exact h
 ·unfold zhb at h⊢
  split at h
  ·unfold zgd at h⊢
   split at h
   ·refine⟨h.1,?_⟩
    have h3:=h.2
    split at h3
    ·rename_i hh;rw[if_pos hh];exact zaz hk h3
    ·rename_i hh;rw[if_neg hh];exact zaz hk h3
   ·exact⟨h.1,zaz hk h.2⟩
   ·exact zaz hk h
   ·exact h
   ·exact h
   ·split at h
    ·rename_i hh
     rw[if_pos hh]
     split at h
     ·exact zaz hk h
     ·exact h
    ·rename_i hh
     rw[if_neg hh]
     exact zaz hk h
   ·exact zaz hk h
  ·split at h
   ·exact zaz hk h
   ·exact h
 ·unfold ziz at h⊢
  split at h
  ·exact zaz hk h
  ·split at h
   ·exact zaz hk h
   ·exact h
 ·unfold zhM at h⊢
  split at h
  ·refine⟨h.1,?_⟩
   have h2:=h.2
   unfold pex at h2⊢
   split at h2
   ·refine⟨h2.1,?_⟩
    have h3:=h2.2
    split at h3
    ·rename_i hh;rw[if_pos hh];exact zaz hk h3
    ·rename_i hh;rw[if_neg hh];exact zaz hk h3
   ·exact h2
  ·exact h
 ·split at h
  ·rename_i hh;rw[if_pos hh];exact zhc hk h
  ·rename_i hh;rw[if_neg hh]
   unfold zj5 at h⊢
   split at h
   ·unfold zoF at h⊢
    split at h
    ·split at h
     ·exact zaz hk h
     ·exact h
    ·split at h
     ·exact⟨h.1,h.2.1,zaz hk h.2.2⟩
     ·exact h
    ·exact h
   ·exact h
 ·unfold zsR at h⊢
  split at h
  ·split at h
   ·rename_i hh;rw[if_pos hh];exact zhc hk h
   ·rename_i hh;rw[if_neg hh]
    unfold zmZ at h⊢
    split at h
    ·split at h
     ·exact fun hl=>zaz hk (h hl)
     ·exact h
    ·exact h
  ·exact h
 ·unfold zs5 at h⊢
  split at h
  ·split at h
   ·rename_i htt
    rw[if_pos htt]
    unfold zoD at h⊢
    split at h
    ·unfold zpv at h⊢
     split at h
     ·split at h
      ·unfold zpr at h⊢
       split at h
       ·exact⟨h.1,h.2.1,zaz hk h.2.2⟩
       ·exact h
      ·exact h
     ·exact h
    ·exact h
   ·rename_i htt
    rw[if_neg htt]
    unfold zns at h⊢
    split at h
    ·refine⟨h.1,?_⟩
     have h:=h.2
     unfold zt3 at h⊢
     split at h
     ·split at h
      ·exact⟨h.1,zaz hk h.2⟩
      ·exact h
     ·exact h
    ·exact h
  ·exact h
 ·rcases h with⟨ms,h⟩|⟨g,x,t,n,z,a1,a2,a3,a4,a5,a6,h⟩|⟨ms,x,a1,a2,h⟩
  ·exact .inl ⟨ms,zmt hk h⟩
  ·exact .inr (.inl ⟨g,x,t,n,z,a1,a2,a3,a4,a5,a6,zaz hk h⟩)
  ·exact .inr (.inr ⟨ms,x,a1,a2,zru hk h⟩)
 all_goals first
  |exact zhc hk h
  | (split at h
     ·rename_i hh;rw[if_pos hh];exact⟨h.1,ztz hk h.2⟩
     ·rename_i hh;rw[if_neg hh];exact zhc hk h)
  | (split at h
     ·rename_i hh;rw[if_pos hh];exact⟨h.1,ztJ hk h.2⟩
     ·rename_i hh;rw[if_neg hh];exact zhc hk h)
  |exact h
theorem ztu (hk:∀pf,K pf→K2 pf) {d:Option Tmp}{pf:PFr}(h:zhP c d K pf):zhP c d K2 pf:=by
 cases d with
 |none=>exact hk _ h
 |some d=>exact⟨h.1,hk _ h.2⟩
theorem zqA (hk:∀pf,K pf→K2 pf) {b:Bool}{d:Option Tmp}{r r2:Prop}(hr:r→r2) {pf:PFr}{y:Option (Option Bool)}(h:pgo c b d r K pf y):pgo c b d r2 K2 pf y:=by
 unfold pgo at h⊢
 split at h
 ·split at h
  ·rename_i hh;rw[if_pos hh];exact hr h
  ·rename_i hh;rw[if_neg hh];exact ztu hk h
 ·exact h
theorem zuu {pre:List (Option Tmp)}:∀{l:List Oper}{K K2:PFr→Prop}(_:∀pf,K pf→K2 pf) {pf:PFr},zmN P c pre l K pf→zmN P c pre l K2 pf:=by
 intro l
 induction l with
 |nil=>intro K K2 hk pf h;exact hk _ h
 |cons o l ih=>
  intro K K2 hk pf h
  simp only[zmN,zlC]at h⊢
  split at h
  ·exact zkB (fun _ hh=>ih hk hh) h
  ·exact zqA (fun _ hh=>ih hk hh) (zkB fun _ hh=>ih hk hh) h
theorem zoT (hk:∀pf,K pf→K2 pf) {ext:Bool}{o:Oper}{pf:PFr}(h:zic P c ext o K pf):zic P c ext o K2 pf:=by
 unfold zic at h⊢
 split at h
 ·split at h
  ·rename_i hx;rw[if_pos hx];exact zmt hk h
  ·rename_i hx;rw[if_neg hx];exact zkB hk h
 ·exact⟨h.1,zkB hk h.2⟩
theorem zti {pre:List (Option Tmp)}:∀{l:List (DE×Oper)}{K K2:PFr→Prop}(_:∀pf,K pf→K2 pf) {pf:PFr},zlZ P c pre l K pf→zlZ P c pre l K2 pf:=by
 intro l
 induction l with
 |nil=>intro K K2 hk pf h;exact hk _ h
 |cons x l ih=>
  obtain⟨e,o⟩:=x
  intro K K2 hk pf h
  refine⟨h.1,?_⟩
  have h2:=h.2
  unfold znU at h2⊢
  split at h2
  ·exact zoT (fun _ hh=>ih hk hh) h2
  ·exact zqA (fun _ hh=>ih hk hh) (zoT fun _ hh=>ih hk hh) h2
theorem zmM:∀(x:Code) {Q Q2:Exit→PFr→Prop},(∀e pf,Q e pf→Q2 e pf)→∀{pf},pwp P c x Q pf→pwp P c x Q2 pf:=by
 intro x
 induction x with
 |skip=>intro Q Q2 hq pf h;exact hq _ _ h
 |region id ops draw=>
  intro Q Q2 hq pf h
  simp only[pwp]at h⊢
  split at h
  ·rename_i hd
   rw[if_pos hd]
   obtain⟨a,n,h⟩:=h
   exact⟨a,n,zjr (fun _=>zti (hq .normal)) h⟩
  ·rename_i hd;rw[if_neg hd];exact zuu (hq .normal) h
 |seq x y ihx ihy=>
  intro Q Q2 hq pf h
  refine ihx (fun e pf h=>?_) h
  cases e<;>try exact hq _ _ h
  obtain⟨pf2,hw,h⟩:=h
  exact⟨pf2,hw,ihy hq h⟩
 |cond b x y ihx ihy=>
  intro Q Q2 hq pf h
  obtain⟨pf2,hw,h⟩:=h
  refine⟨pf2,hw,?_⟩
  unfold zwB at h⊢
  split at h
  ·split at h
   ·rename_i e;rw[if_pos e];exact ihx hq h
   ·rename_i e;rw[if_neg e];exact ihy hq h
  ·exact h
 |block id b ih=>
  intro Q Q2 hq pf h
  refine ih (fun e pf h=>?_) h
  cases e<;>try exact hq _ _ h
  simp only[zk2]at h⊢
  split at h
  ·rename_i e;rw[if_pos e];exact hq _ _ h
  ·rename_i e;rw[if_neg e];exact hq _ _ h
 |loop b ih=>
  intro Q Q2 hq pf h
  obtain⟨n,hn⟩:=h
  refine⟨n,?_⟩
  induction n generalizing pf with
  |zero=>exact hn
  |succ n ihn=>
   obtain⟨pf2,hw,hn⟩:=hn
   refine⟨pf2,hw,ih (fun e pf h=>?_) hn⟩
   cases e<;>first|exact ihn h|exact hq _ _ h
 |exit id=>intro Q Q2 hq pf h;exact hq _ _ h
 |ret=>intro Q Q2 hq pf h;exact hq _ _ h
 |_=>intros;rename_i h;exact absurd h (by simp[pwp])
end
section
variable {P:Program}{c:Cfg}{k:List PIt}{Q:Exit→PFr→Prop}{pf:PFr}
theorem zwP {pf':PFr}(h:pf=pf'):pw P c k Q pf=pw P c k Q pf':=by rw[h]
@[go_sem ↓] theorem zNF:pw P c [] Q pf=Q .normal pf:=rfl
@[go_sem ↓] theorem zNT {i:Nat}:pw P c (.blk i::k) Q pf=pw P c k Q pf:=rfl
@[go_sem ↓] theorem zKm:pw P c (.code .skip::k) Q pf=pw P c k Q pf:=rfl
@[go_sem ↓] theorem zqi {x y:Code}:pw P c (.code (.seq x y)::k) Q pf=pw P c (.code x::.wk y::k) Q pf:=by
 show pwp P c x (zw3 (fun pf=>∃pf2,PWeak pf2 pf∧pwp P c y (zbL P c k Q) pf2) (zbL P c k Q)) pf=pwp P c x (zbL P c (.wk y::k) Q) pf
 congr 1
 funext e
 cases e<;>rfl
@[go_sem ↓] theorem pw_block {id:Nat}{b:Code}:pw P c (.code (.block id b)::k) Q pf=pw P c (.code b::.blk id::k) Q pf:=by
 show pwp P c b (zk2 id (zbL P c k Q)) pf=pwp P c b (zbL P c (.blk id::k) Q) pf
 congr 1
 funext e
 cases e<;>try rfl
 funext pf
 simp only[zk2,zbL]
 split<;>rfl
theorem zlJ:zbL P c k Q .ret=Q .ret:=by
 induction k with
 |nil=>rfl
 |cons it k ih=>exact ih
@[go_sem ↓] theorem zPi:pw P c (.code .ret::k) Q pf=Q .ret pf:=by
 show zbL P c k Q .ret pf=_
 rw[zlJ]
def pwx (P:Program) (c:Cfg) (id:Nat) (k:List PIt) (Q:Exit→PFr→Prop) (pf:PFr):Prop:=zbL P c k Q (.exit id) pf
@[go_sem ↓] theorem zJT {id:Nat}:pw P c (.code (.exit id)::k) Q pf=pwx P c id k Q pf:=rfl
@[go_sem ↓] theorem zKS {id:Nat}:pwx P c id [] Q pf=Q (.exit id) pf:=rfl
@[go_sem ↓] theorem zIs {id:Nat}{x:Code}:pwx P c id (.code x::k) Q pf=pwx P c id k Q pf:=rfl
@[go_sem ↓] theorem zNX {id:Nat}{x:Code}:pwx P c id (.wk x::k) Q pf=pwx P c id k Q pf:=rfl
@[go_sem ↓] theorem zKz {id:Nat}{pre:List (Option Tmp)}{l:List Oper}:pwx P c id (.ops pre l::k) Q pf=pwx P c id k Q pf:=rfl
@[go_sem ↓] theorem zJa {id:Nat}{pre:List (Option Tmp)}{l:List (DE×Oper)}:pwx P c id (.dops pre l::k) Q pf=pwx P c id k Q pf:=rfl
@[go_sem ↓] theorem zKZ {id i:Nat}:pwx P c id (.blk i::k) Q pf=if id=i then pw P c k Q pf else pwx P c id k Q pf:=by
 show(zbL P c (.blk i::k) Q (.exit id)) pf=_
 simp only[zbL]
 split<;>rfl
def PFr.ofL:List (Nat×PF)→PFr
 |[],_=>jP
 |(s,x)::l,t=>if t=s then x else PFr.ofL l t
def zcp:List (Nat×PF)→PFr→Prop
 |[],_=>True
 |(s,x)::l,pf=>pf s=x∧zcp l pf
@[go_sem] theorem zBe {pf:PFr}:zcp [] pf=True:=rfl
@[go_sem] theorem zAD {s:Nat}{x:PF}{l:List (Nat×PF)}{pf:PFr}:zcp ((s,x)::l) pf=(pf s=x∧zcp l pf):=rfl
theorem zrf:∀{l:List (Nat×PF)}{pf:PFr},zcp l pf→∀t,PFr.ofL l t=pf t∨PFr.ofL l t=jP:=by
 intro l
 induction l with
 |nil=>intro pf _ t;exact .inr rfl
 |cons p l ih=>
  intro pf h t
  obtain⟨s,x⟩:=p
  obtain⟨h1,h2⟩:=h
  by_cases e:t=s
  ·subst e;left;simp[PFr.ofL,h1]
  ·rcases ih h2 t with e2|e2
   ·left;simpa[PFr.ofL,e]using e2
   ·right;simpa[PFr.ofL,e]using e2
theorem zhQ {l:List (Nat×PF)}{pf:PFr}(h:zcp l pf):PWeak (PFr.ofL l) pf:=.w (zrf h)
theorem znX:PWeak pf pf:=.w fun _=>.inl rfl
theorem zal {x:Code}(h:pw P c (.code x::k) Q pf):pw P c (.wk x::k) Q pf:=⟨pf,znX,h⟩
theorem zk7 {x:Code}(l:List (Nat×PF)) (ha:zcp l pf) (h:pw P c (.code x::k) Q (PFr.ofL l)):pw P c (.wk x::k) Q pf:=⟨PFr.ofL l,zhQ ha,h⟩
theorem zm6 {b:Operand}{x y:Code}{v:Bool}(hb:rdS pf b=some (.bool v)) (ht:v=true→pw P c (.code x::k) Q pf) (he:v=false→pw P c (.code y::k) Q pf):
 pw P c (.code (.cond b x y)::k) Q pf:=by
 refine⟨pf,znX,?_⟩
 rw[hb]
 cases v
 ·exact he rfl
 ·exact ht rfl
theorem zlt {b:Operand}{x y:Code}(hb:rdS pf b=some (.bool true)) (ht:pw P c (.code x::k) Q pf):pw P c (.code (.cond b x y)::k) Q pf:=zm6 hb (fun _=>ht) (fun h=>by cases h)
theorem zla {b:Operand}{x y:Code}(hb:rdS pf b=some (.bool false)) (ht:pw P c (.code y::k) Q pf):pw P c (.code (.cond b x y)::k) Q pf:=zm6 hb (fun h=>by cases h) (fun _=>ht)
def zuJ {σ:Type}(shape:σ→List (Nat×PF)) (I:σ→Prop) (meas:σ→Nat) (n:Nat) (pf:PFr):Prop:=∃s,zcp (shape s) pf∧I s∧meas s<n
def zpV {σ:Type}(P:Program) (c:Cfg) (shape:σ→List (Nat×PF)) (I:σ→Prop) (meas:σ→Nat) (n:Nat) (k:List PIt) (Q:Exit→PFr→Prop):Exit→PFr→Prop
 | .normal,pf=>zuJ shape I meas n pf
 |e,pf=>zbL P c k Q e pf
@[go_sem ↓] theorem zyH {σ:Type}{shape:σ→List (Nat×PF)}{I:σ→Prop}{meas:σ→Nat}{n:Nat}:zpV P c shape I meas n k Q .normal pf=zuJ shape I meas n pf:=rfl
@[go_sem ↓] theorem zAG {σ:Type}{shape:σ→List (Nat×PF)}{I:σ→Prop}{meas:σ→Nat}{n id:Nat}:zpV P c shape I meas n k Q (.exit id) pf=pwx P c id k Q pf:=rfl
@[go_sem ↓] theorem zA2 {σ:Type}{shape:σ→List (Nat×PF)}{I:σ→Prop}{meas:σ→Nat}{n:Nat}:zpV P c shape I meas n k Q .ret pf=Q .ret pf:=by
 show zbL P c k Q .ret pf=_
 rw[zlJ]
end
end Go.Pm
