import Derived.Test.YthafgjhkjgcdeaaGreatPmR
namespace Go.Pm
open Go.Am
inductive PIt where
 |code (c:Code)
 |wk (c:Code)
 |ops (pre:List (Option Tmp)) (l:List Oper)
 |dops (pre:List (Option Tmp)) (l:List (DE×Oper))
 |blk (id:Nat)
def zca (P:Program) (c:Cfg):List PIt→(Exit→PFr→Prop)→Exit→PFr→Prop
 |[],Q,e=>Q e
 |it::k,Q,e=>match e with
  | .normal=>match it with
   | .code x=>pwp P c x (zca P c k Q)
   | .wk x=>fun pf=>∃pf2,PWeak pf2 pf∧pwp P c x (zca P c k Q) pf2
   | .ops pre l=>zmH P c pre l (zca P c k Q .normal)
   | .dops pre l=>zlV P c pre l (zca P c k Q .normal)
   | .blk _=>zca P c k Q .normal
  | .exit id=>match it with
   | .blk i=>if id=i then zca P c k Q .normal else zca P c k Q (.exit id)
   |_=>zca P c k Q (.exit id)
  |e=>zca P c k Q e
def pw (P:Program) (c:Cfg) (k:List PIt) (Q:Exit→PFr→Prop) (pf:PFr):Prop:=zca P c k Q .normal pf
section
variable {P:Program}{c:Cfg}{K K2:PFr→Prop}
theorem zww (hk:∀pf,K pf→K2 pf) {d:Nat}{x:Option (PF×PFr)}(h:pfz K d x):pfz K2 d x:=by
 cases x with
 |none=>exact h
 |some x=>exact hk _ h
theorem zaU (hk:∀pf,K pf→K2 pf) {d:Option Tmp}{y:PF}{pf:PFr}(h:zbW c K d y pf):zbW c K2 d y pf:=by
 cases d with
 |none=>exact hk _ h
 |some d=>
  refine⟨h.1,?_⟩
  have h2:=h.2
  split at h2
  ·rename_i hh;rw[if_pos hh];exact zww hk h2
  ·rename_i hh;rw[if_neg hh];exact hk _ h2
theorem zpY (hk:∀pf,K pf→K2 pf) {d:Option Tmp}{pf:PFr}{x:Option AD}(h:pad c K d pf x):pad c K2 d pf x:=by
 cases x with
 |none=>exact h
 |some x=>exact zaU hk h
theorem zhq (hk:∀pf,K pf→K2 pf) {o:Oper}{pf:PFr}(h:zeB P c o K pf):zeB P c o K2 pf:=by
 unfold zeB at h⊢
 split at h
 ·split at h
  ·exact zaU hk h
  ·exact h
 ·exact h
theorem zoz (hk:∀pf,K pf→K2 pf) {d:Option Tmp}{r:PV}{x:Option PFr}(h:zpx c d K r x):zpx c d K2 r x:=by
 cases x with
 |none=>exact h
 |some x=>exact zaU hk h
theorem zmg (hk:∀pf,K pf→K2 pf) {f:Operand}{args:List Operand}{ts:List TypeId}{d:Option Tmp}{pf:PFr}{ms:List Md}(h:zlH P c f args ts d K pf ms):zlH P c f args ts d K2 pf ms:=by
 refine⟨h.1,?_⟩
 have h2:=h.2
 unfold zqg at h2⊢
 split at h2
 ·unfold zh1 at h2⊢
  split at h2
  ·exact h2.mono fun r outs hh=>⟨hh.1,zoz hk hh.2⟩
  ·exact h2
 ·exact h2
theorem zq3 (hk:∀pf,K pf→K2 pf) {f:Operand}{d:Option Tmp}{l:List (Md×Nat×Operand)}{x:Nat×FuncId×List PV}{y:Option (List PV×PFr)}(h:zlG P c f d K l x y):zlG P c f d K2 l x y:=by
 unfold zlG at h⊢
 split at h
 ·refine⟨h.1,?_⟩
  have h2:=h.2
  unfold zh1 at h2⊢
  split at h2
  ·exact h2.mono fun r outs hh=>⟨hh.1,zoz hk hh.2⟩
  ·exact h2
 ·exact h
theorem ztE (hk:∀pf,K pf→K2 pf) {op:BinOp}{t:TypeId}{x:Operand}{d:Option Tmp}{pf:PFr}(h:zkD P c op t x d K pf):zkD P c op t x d K2 pf:=by
 unfold zkD at h⊢
 split at h
 ·exact⟨h.1,fun b hb=>zaU hk (h.2 b hb)⟩
 ·exact h
theorem zta (hk:∀pf,K pf→K2 pf) {s t:TypeId}{x:Operand}{d:Option Tmp}{pf:PFr}(h:ziy P c s t x d K pf):ziy P c s t x d K2 pf:=by
 unfold ziy at h⊢
 split at h
 ·exact⟨h.1,zaU hk h.2⟩
 ·exact h
theorem zkw (hk:∀pf,K pf→K2 pf) {o:Oper}{pf:PFr}(h:pop P c o K pf):pop P c o K2 pf:=by
 unfold pop at h⊢
 split at h
 ·unfold zlR at h⊢
  split at h
  ·exact zaU hk h
  ·split at h
   ·exact zaU hk h
   ·exact h
 ·unfold zkd at h⊢
  split at h
  ·refine⟨h.1,h.2.1,?_⟩
   have h3:=h.2.2
   unfold ziM at h3⊢
   split at h3
   ·split at h3
    ·exact hk _ h3
    ·exact h3
   ·exact h3
  ·exact h
 ·exact zpY hk h
 ·unfold zj4 at h⊢
  split at h
  ·exact zaU hk h
  ·split at h
   ·exact zaU hk h
   ·exact h
 ·exact zpY hk h
 ·unfold zj2 at h⊢
  split at h
  ·refine⟨h.1,?_⟩
   have h3:=h.2
   split at h3
   ·rename_i hh;rw[if_pos hh];exact hk _ h3
   ·rename_i hh;rw[if_neg hh];exact hk _ h3
  ·exact h
 ·unfold zoc at h⊢
  split at h
  ·refine⟨h.1,h.2.1,h.2.2.1,?_⟩
   have h3:=h.2.2.2
   split at h3
   ·rename_i hh;rw[if_pos hh]
    split at h3
    ·rename_i hh;rw[if_pos hh];exact hk _ h3
    ·rename_i hh;rw[if_neg hh];exact hk _ h3
   ·rename_i hh;rw[if_neg hh];exact hk _ h3
  ·exact h
 ·unfold zn2 at h⊢
  split at h
  ·rename_i hm
   rw[if_pos hm]
   unfold znA at h⊢
   split at h
   ·exact zaU hk h
   ·exact h
  rename_i hm
  rw[if_neg hm]
  split at h
  ·refine⟨h.1,?_⟩
   have h3:=h.2
   unfold zpg at h3⊢
   split at h3
   ·exact⟨h3.1,hk _ h3.2⟩
   ·exact h3
  ·exact h
 ·unfold zkb at h⊢
  split at h
  ·unfold zsu at h⊢
   split at h
   ·exact zaU hk h
   ·exact h
  ·exact h
 ·unfold zlU ztw at h⊢
  split at h
  ·split at h
   ·exact zaU hk h
   ·exact h
  ·split at h
   ·exact zaU hk h
   ·exact h
  ·exact h
 ·unfold zlS at h⊢
  split at h
  ·unfold ztt at h⊢
   split at h
   ·exact⟨h.1,zaU hk h.2⟩
   ·exact h
  ·exact h
 ·unfold zl7 at h⊢
  split at h
  ·rename_i hb
   rw[if_pos hb]
   split at h
   ·exact zaU hk h
   ·exact h
  ·rename_i hb
   rw[if_neg hb]
   split at h
   ·exact zaU hk h
   ·exact h
 ·unfold zhu at h⊢
  split at h
  ·unfold zgs at h⊢
   split at h
   ·refine⟨h.1,?_⟩
    have h3:=h.2
    split at h3
    ·rename_i hh;rw[if_pos hh];exact zaU hk h3
    ·rename_i hh;rw[if_neg hh];exact zaU hk h3
   ·exact⟨h.1,zaU hk h.2⟩
   ·exact zaU hk h
   ·exact h
   ·exact h
   ·split at h
    ·rename_i hh
     rw[if_pos hh]
     split at h
     ·exact zaU hk h
     ·exact h
    ·rename_i hh
     rw[if_neg hh]
     exact zaU hk h
   ·exact zaU hk h
  ·split at h
   ·exact zaU hk h
   ·exact h
 ·unfold ziJ at h⊢
  split at h
  ·exact zaU hk h
  ·split at h
   ·exact zaU hk h
   ·exact h
 ·unfold zhO at h⊢
  split at h
  ·refine⟨h.1,?_⟩
   have h2:=h.2
   unfold pex at h2⊢
   split at h2
   ·refine⟨h2.1,?_⟩
    have h3:=h2.2
    split at h3
    ·rename_i hh;rw[if_pos hh];exact zaU hk h3
    ·rename_i hh;rw[if_neg hh];exact zaU hk h3
   ·exact h2
  ·exact h
 ·split at h
  ·rename_i hh;rw[if_pos hh];exact zhq hk h
  ·rename_i hh;rw[if_neg hh]
   unfold zkc at h⊢
   split at h
   ·unfold zoo at h⊢
    split at h
    ·split at h
     ·exact zaU hk h
     ·exact h
    ·split at h
     ·exact⟨h.1,h.2.1,zaU hk h.2.2⟩
     ·exact h
    ·exact h
   ·exact h
 ·unfold ztu at h⊢
  split at h
  ·split at h
   ·rename_i hh;rw[if_pos hh];exact zhq hk h
   ·rename_i hh;rw[if_neg hh]
    unfold zmV at h⊢
    split at h
    ·split at h
     ·exact fun hl=>zaU hk (h hl)
     ·exact h
    ·exact h
  ·exact h
 ·unfold zsF at h⊢
  split at h
  ·split at h
   ·rename_i htt
    rw[if_pos htt]
    unfold zn5 at h⊢
    split at h
    ·unfold zoX at h⊢
     split at h
     ·split at h
      ·unfold zpa at h⊢
       split at h
       ·exact⟨h.1,h.2.1,zaU hk h.2.2⟩
       ·exact h
      ·exact h
     ·exact h
    ·exact h
   ·rename_i htt
    rw[if_neg htt]
    unfold znC at h⊢
    split at h
    ·refine⟨h.1,?_⟩
     have h:=h.2
     unfold ztc at h⊢
     split at h
     ·split at h
      ·exact⟨h.1,zaU hk h.2⟩
      ·exact h
     ·exact h
    ·exact h
  ·exact h
 ·rcases h with⟨ms,h⟩|⟨g,x,t,n,z,a1,a2,a3,a4,a5,a6,h⟩|⟨ms,x,a1,a2,h⟩
  ·exact .inl ⟨ms,zmg hk h⟩
  ·exact .inr (.inl ⟨g,x,t,n,z,a1,a2,a3,a4,a5,a6,zaU hk h⟩)
  ·exact .inr (.inr ⟨ms,x,a1,a2,zq3 hk h⟩)
 all_goals first
  |exact zhq hk h
  | (split at h
     ·rename_i hh;rw[if_pos hh];exact⟨h.1,ztE hk h.2⟩
     ·rename_i hh;rw[if_neg hh];exact zhq hk h)
  | (split at h
     ·rename_i hh;rw[if_pos hh];exact⟨h.1,zta hk h.2⟩
     ·rename_i hh;rw[if_neg hh];exact zhq hk h)
  |exact h
theorem ztj (hk:∀pf,K pf→K2 pf) {d:Option Tmp}{pf:PFr}(h:zhR c d K pf):zhR c d K2 pf:=by
 cases d with
 |none=>exact hk _ h
 |some d=>exact⟨h.1,hk _ h.2⟩
theorem zpu (hk:∀pf,K pf→K2 pf) {b:Bool}{d:Option Tmp}{r r2:Prop}(hr:r→r2) {pf:PFr}{y:Option (Option Bool)}(h:pgo c b d r K pf y):pgo c b d r2 K2 pf y:=by
 unfold pgo at h⊢
 split at h
 ·split at h
  ·rename_i hh;rw[if_pos hh];exact hr h
  ·rename_i hh;rw[if_neg hh];exact ztj hk h
 ·exact h
theorem zun {pre:List (Option Tmp)}:∀{l:List Oper}{K K2:PFr→Prop}(_:∀pf,K pf→K2 pf) {pf:PFr},zmH P c pre l K pf→zmH P c pre l K2 pf:=by
 intro l
 induction l with
 |nil=>intro K K2 hk pf h;exact hk _ h
 |cons o l ih=>
  intro K K2 hk pf h
  simp only[zmH,zk2]at h⊢
  split at h
  ·exact zkw (fun _ hh=>ih hk hh) h
  ·exact zpu (fun _ hh=>ih hk hh) (zkw fun _ hh=>ih hk hh) h
theorem zox (hk:∀pf,K pf→K2 pf) {ext:Bool}{o:Oper}{pf:PFr}(h:zih P c ext o K pf):zih P c ext o K2 pf:=by
 unfold zih at h⊢
 split at h
 ·split at h
  ·rename_i hx;rw[if_pos hx];exact zmg hk h
  ·rename_i hx;rw[if_neg hx];exact zkw hk h
 ·exact⟨h.1,zkw hk h.2⟩
theorem zsv {pre:List (Option Tmp)}:∀{l:List (DE×Oper)}{K K2:PFr→Prop}(_:∀pf,K pf→K2 pf) {pf:PFr},zlV P c pre l K pf→zlV P c pre l K2 pf:=by
 intro l
 induction l with
 |nil=>intro K K2 hk pf h;exact hk _ h
 |cons x l ih=>
  obtain⟨e,o⟩:=x
  intro K K2 hk pf h
  refine⟨h.1,?_⟩
  have h2:=h.2
  unfold znP at h2⊢
  split at h2
  ·exact zox (fun _ hh=>ih hk hh) h2
  ·exact zpu (fun _ hh=>ih hk hh) (zox fun _ hh=>ih hk hh) h2
theorem zmF:∀(x:Code) {Q Q2:Exit→PFr→Prop},(∀e pf,Q e pf→Q2 e pf)→∀{pf},pwp P c x Q pf→pwp P c x Q2 pf:=by
 intro x
 induction x with
 |skip=>intro Q Q2 hq pf h;exact hq _ _ h
 |region id ops draw=>
  intro Q Q2 hq pf h
  simp only[pwp]at h⊢
  split at h
  ·rename_i hd
   rw[if_pos hd]
   obtain⟨a,n,h⟩:=h
   exact⟨a,n,zjH (fun _=>zsv (hq .normal)) h⟩
  ·rename_i hd;rw[if_neg hd];exact zun (hq .normal) h
 |seq x y ihx ihy=>
  intro Q Q2 hq pf h
  refine ihx (fun e pf h=>?_) h
  cases e<;>try exact hq _ _ h
  obtain⟨pf2,hw,h⟩:=h
  exact⟨pf2,hw,ihy hq h⟩
 |cond b x y ihx ihy=>
  intro Q Q2 hq pf h
  obtain⟨pf2,hw,h⟩:=h
  refine⟨pf2,hw,?_⟩
  unfold zwy at h⊢
  split at h
  ·split at h
   ·rename_i e;rw[if_pos e];exact ihx hq h
   ·rename_i e;rw[if_neg e];exact ihy hq h
  ·exact h
 |block id b ih=>
  intro Q Q2 hq pf h
  refine ih (fun e pf h=>?_) h
  cases e<;>try exact hq _ _ h
  simp only[zlN]at h⊢
  split at h
  ·rename_i e;rw[if_pos e];exact hq _ _ h
  ·rename_i e;rw[if_neg e];exact hq _ _ h
 |loop b ih=>
  intro Q Q2 hq pf h
  obtain⟨n,hn⟩:=h
  refine⟨n,?_⟩
  induction n generalizing pf with
  |zero=>exact hn
  |succ n ihn=>
   obtain⟨pf2,hw,hn⟩:=hn
   refine⟨pf2,hw,ih (fun e pf h=>?_) hn⟩
   cases e<;>first|exact ihn h|exact hq _ _ h
 |exit id=>intro Q Q2 hq pf h;exact hq _ _ h
 |ret=>intro Q Q2 hq pf h;exact hq _ _ h
 |_=>intros;rename_i h;exact absurd h (by simp[pwp])
end
section
variable {P:Program}{c:Cfg}{k:List PIt}{Q:Exit→PFr→Prop}{pf:PFr}
theorem zvq {pf':PFr}(h:pf=pf'):pw P c k Q pf=pw P c k Q pf':=by rw[h]
@[go_sem ↓] theorem zOv:pw P c [] Q pf=Q .normal pf:=rfl
@[go_sem ↓] theorem zOb {i:Nat}:pw P c (.blk i::k) Q pf=pw P c k Q pf:=rfl
@[go_sem ↓] theorem zM7:pw P c (.code .skip::k) Q pf=pw P c k Q pf:=rfl
@[go_sem ↓] theorem zpT {x y:Code}:pw P c (.code (.seq x y)::k) Q pf=pw P c (.code x::.wk y::k) Q pf:=by
 show pwp P c x (zwQ (fun pf=>∃pf2,PWeak pf2 pf∧pwp P c y (zca P c k Q) pf2) (zca P c k Q)) pf=pwp P c x (zca P c (.wk y::k) Q) pf
 congr 1
 funext e
 cases e<;>rfl
@[go_sem ↓] theorem pw_block {id:Nat}{b:Code}:pw P c (.code (.block id b)::k) Q pf=pw P c (.code b::.blk id::k) Q pf:=by
 show pwp P c b (zlN id (zca P c k Q)) pf=pwp P c b (zca P c (.blk id::k) Q) pf
 congr 1
 funext e
 cases e<;>try rfl
 funext pf
 simp only[zlN,zca]
 split<;>rfl
theorem zk9:zca P c k Q .ret=Q .ret:=by
 induction k with
 |nil=>rfl
 |cons it k ih=>exact ih
@[go_sem ↓] theorem zN8:pw P c (.code .ret::k) Q pf=Q .ret pf:=by
 show zca P c k Q .ret pf=_
 rw[zk9]
def pwx (P:Program) (c:Cfg) (id:Nat) (k:List PIt) (Q:Exit→PFr→Prop) (pf:PFr):Prop:=zca P c k Q (.exit id) pf
@[go_sem ↓] theorem zL4 {id:Nat}:pw P c (.code (.exit id)::k) Q pf=pwx P c id k Q pf:=rfl
@[go_sem ↓] theorem zMT {id:Nat}:pwx P c id [] Q pf=Q (.exit id) pf:=rfl
@[go_sem ↓] theorem zHz {id:Nat}{x:Code}:pwx P c id (.code x::k) Q pf=pwx P c id k Q pf:=rfl
@[go_sem ↓] theorem zOj {id:Nat}{x:Code}:pwx P c id (.wk x::k) Q pf=pwx P c id k Q pf:=rfl
@[go_sem ↓] theorem zMO {id:Nat}{pre:List (Option Tmp)}{l:List Oper}:pwx P c id (.ops pre l::k) Q pf=pwx P c id k Q pf:=rfl
@[go_sem ↓] theorem zG4 {id:Nat}{pre:List (Option Tmp)}{l:List (DE×Oper)}:pwx P c id (.dops pre l::k) Q pf=pwx P c id k Q pf:=rfl
@[go_sem ↓] theorem zMo {id i:Nat}:pwx P c id (.blk i::k) Q pf=if id=i then pw P c k Q pf else pwx P c id k Q pf:=by
 show(zca P c (.blk i::k) Q (.exit id)) pf=_
 simp only[zca]
 split<;>rfl
def PFr.ofL:List (Nat×PF)→PFr
 |[],_=>jP
 |(s,x)::l,t=>if t=s then x else PFr.ofL l t
def zcI:List (Nat×PF)→PFr→Prop
 |[],_=>True
 |(s,x)::l,pf=>pf s=x∧zcI l pf
@[go_sem] theorem zDW {pf:PFr}:zcI [] pf=True:=rfl
@[go_sem] theorem zBe {s:Nat}{x:PF}{l:List (Nat×PF)}{pf:PFr}:zcI ((s,x)::l) pf=(pf s=x∧zcI l pf):=rfl
theorem zpH:∀{l:List (Nat×PF)}{pf:PFr},zcI l pf→∀t,PFr.ofL l t=pf t∨PFr.ofL l t=jP:=by
 intro l
 induction l with
 |nil=>intro pf _ t;exact .inr rfl
 |cons p l ih=>
  intro pf h t
  obtain⟨s,x⟩:=p
  obtain⟨h1,h2⟩:=h
  by_cases e:t=s
  ·subst e;left;simp[PFr.ofL,h1]
  ·rcases ih h2 t with e2|e2
   ·left;simpa[PFr.ofL,e]using e2
   ·right;simpa[PFr.ofL,e]using e2
theorem zhQ {l:List (Nat×PF)}{pf:PFr}(h:zcI l pf):PWeak (PFr.ofL l) pf:=.w (zpH h)
theorem zni:PWeak pf pf:=.w fun _=>.inl rfl
theorem zzh (s:Nat) {x:Code}{y:PV}(hs:pf s=.v y) (hy:isJ y=false) (h:pw P c (.wk x::k) Q ((pf.upd s (.v (drop y))).kill s 0)):pw P c (.wk x::k) Q pf:=
 let⟨pf2,h1,h2⟩:=h;⟨pf2,.f s y hs hy h1,h2⟩
theorem zaT {x:Code}(h:pw P c (.code x::k) Q pf):pw P c (.wk x::k) Q pf:=⟨pf,zni,h⟩
theorem zla {x:Code}(l:List (Nat×PF)) (ha:zcI l pf) (h:pw P c (.code x::k) Q (PFr.ofL l)):pw P c (.wk x::k) Q pf:=⟨PFr.ofL l,zhQ ha,h⟩
theorem zm1 {b:Operand}{x y:Code}{v:Bool}(hb:rdS pf b=some (.bool v)) (ht:v=true→pw P c (.code x::k) Q pf) (he:v=false→pw P c (.code y::k) Q pf):
 pw P c (.code (.cond b x y)::k) Q pf:=by
 refine⟨pf,zni,?_⟩
 rw[hb]
 cases v
 ·exact he rfl
 ·exact ht rfl
theorem zlb {b:Operand}{x y:Code}(hb:rdS pf b=some (.bool true)) (ht:pw P c (.code x::k) Q pf):pw P c (.code (.cond b x y)::k) Q pf:=zm1 hb (fun _=>ht) (fun h=>by cases h)
theorem zlv {b:Operand}{x y:Code}(hb:rdS pf b=some (.bool false)) (ht:pw P c (.code y::k) Q pf):pw P c (.code (.cond b x y)::k) Q pf:=zm1 hb (fun h=>by cases h) (fun _=>ht)
def zt4 {σ:Type}(shape:σ→List (Nat×PF)) (I:σ→Prop) (meas:σ→Nat) (n:Nat) (pf:PFr):Prop:=∃s,zcI (shape s) pf∧I s∧meas s<n
def zpM {σ:Type}(P:Program) (c:Cfg) (shape:σ→List (Nat×PF)) (I:σ→Prop) (meas:σ→Nat) (n:Nat) (k:List PIt) (Q:Exit→PFr→Prop):Exit→PFr→Prop
 | .normal,pf=>zt4 shape I meas n pf
 |e,pf=>zca P c k Q e pf
@[go_sem ↓] theorem zyn {σ:Type}{shape:σ→List (Nat×PF)}{I:σ→Prop}{meas:σ→Nat}{n:Nat}:zpM P c shape I meas n k Q .normal pf=zt4 shape I meas n pf:=rfl
@[go_sem ↓] theorem zA1 {σ:Type}{shape:σ→List (Nat×PF)}{I:σ→Prop}{meas:σ→Nat}{n id:Nat}:zpM P c shape I meas n k Q (.exit id) pf=pwx P c id k Q pf:=rfl
@[go_sem ↓] theorem zEb {σ:Type}{shape:σ→List (Nat×PF)}{I:σ→Prop}{meas:σ→Nat}{n:Nat}:zpM P c shape I meas n k Q .ret pf=Q .ret pf:=by
 show zca P c k Q .ret pf=_
 rw[zk9]
end
end Go.Pm
