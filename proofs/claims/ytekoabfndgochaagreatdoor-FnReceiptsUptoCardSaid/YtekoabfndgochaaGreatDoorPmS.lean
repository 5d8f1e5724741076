import Derived.Test.YtekoabfndgochaaGreatDoorPmR
namespace Go.Pm
open Go.Am
inductive PIt where
 |code (c:Code)
 |wk (c:Code)
 |ops (pre:List (Option Tmp)) (l:List Oper)
 |dops (pre:List (Option Tmp)) (l:List (DE×Oper))
 |blk (id:Nat)
def zbT (P:Program) (c:Cfg):List PIt→(Exit→PFr→Prop)→Exit→PFr→Prop
 |[],Q,e=>Q e
 |it::k,Q,e=>match e with
  | .normal=>match it with
   | .code x=>pwp P c x (zbT P c k Q)
   | .wk x=>fun pf=>∃pf2,PWeak pf2 pf∧pwp P c x (zbT P c k Q) pf2
   | .ops pre l=>znA P c pre l (zbT P c k Q .normal)
   | .dops pre l=>zmD P c pre l (zbT P c k Q .normal)
   | .blk _=>zbT P c k Q .normal
  | .exit id=>match it with
   | .blk i=>if id=i then zbT P c k Q .normal else zbT P c k Q (.exit id)
   |_=>zbT P c k Q (.exit id)
  |e=>zbT P c k Q e
def pw (P:Program) (c:Cfg) (k:List PIt) (Q:Exit→PFr→Prop) (pf:PFr):Prop:=zbT P c k Q .normal pf
section
variable {P:Program}{c:Cfg}{K K2:PFr→Prop}
theorem zxE (hk:∀pf,K pf→K2 pf) {d:Nat}{x:Option (PF×PFr)}(h:pfz K d x):pfz K2 d x:=by
 cases x with
 |none=>exact h
 |some x=>exact hk _ h
theorem zaD (hk:∀pf,K pf→K2 pf) {d:Option Tmp}{y:PF}{pf:PFr}(h:zby c K d y pf):zby c K2 d y pf:=by
 cases d with
 |none=>exact hk _ h
 |some d=>
  refine⟨h.1,?_⟩
  have h2:=h.2
  split at h2
  ·rename_i hh;rw[if_pos hh];exact zxE hk h2
  ·rename_i hh;rw[if_neg hh];exact hk _ h2
theorem zrh (hk:∀pf,K pf→K2 pf) {d:Option Tmp}{pf:PFr}{x:Option AD}(h:pad c K d pf x):pad c K2 d pf x:=by
 cases x with
 |none=>exact h
 |some x=>exact zaD hk h
theorem zhC (hk:∀pf,K pf→K2 pf) {o:Oper}{pf:PFr}(h:zeK P c o K pf):zeK P c o K2 pf:=by
 unfold zeK at h⊢
 split at h
 ·split at h
  ·exact zaD hk h
  ·exact h
 ·exact h
theorem zpD (hk:∀pf,K pf→K2 pf) {d:Option Tmp}{r:PV}{x:Option PFr}(h:ztB c d K r x):ztB c d K2 r x:=by
 cases x with
 |none=>exact h
 |some x=>exact zaD hk h
theorem zm9 (hk:∀pf,K pf→K2 pf) {f:Operand}{args:List Operand}{ts:List TypeId}{d:Option Tmp}{pf:PFr}{ms:List Md}(h:zl3 P c f args ts d K pf ms):zl3 P c f args ts d K2 pf ms:=by
 refine⟨h.1,?_⟩
 have h2:=h.2
 unfold zrw at h2⊢
 split at h2
 ·unfold zis at h2⊢
  split at h2
  ·exact h2.mono fun r outs hh=>⟨hh.1,zpD hk hh.2⟩
  ·exact h2
 ·exact h2
theorem zsn (hk:∀pf,K pf→K2 pf) {f:Operand}{d:Option Tmp}{l:List (Md×Nat×Operand)}{x:Nat×FuncId×List PV}{y:Option (List PV×PFr)}(h:zmq P c f d K l x y):zmq P c f d K2 l x y:=by
 unfold zmq at h⊢
 split at h
 ·refine⟨h.1,?_⟩
  have h2:=h.2
  unfold zis at h2⊢
  split at h2
  ·exact h2.mono fun r outs hh=>⟨hh.1,zpD hk hh.2⟩
  ·exact h2
 ·exact h
theorem ztN (hk:∀pf,K pf→K2 pf) {op:BinOp}{t:TypeId}{x:Operand}{d:Option Tmp}{pf:PFr}(h:zk5 P c op t x d K pf):zk5 P c op t x d K2 pf:=by
 unfold zk5 at h⊢
 split at h
 ·exact⟨h.1,fun b hb=>zaD hk (h.2 b hb)⟩
 ·exact h
theorem zuq (hk:∀pf,K pf→K2 pf) {s t:TypeId}{x:Operand}{d:Option Tmp}{pf:PFr}(h:zi7 P c s t x d K pf):zi7 P c s t x d K2 pf:=by
 unfold zi7 at h⊢
 split at h
 ·exact⟨h.1,zaD hk h.2⟩
 ·exact h
theorem zlh (hk:∀pf,K pf→K2 pf) {o:Oper}{pf:PFr}(h:pop P c o K pf):pop P c o K2 pf:=by
 unfold pop at h⊢
 split at h
 ·unfold zmJ at h⊢
  split at h
  ·unfold zmA at h⊢
   split at h
   ·exact zaD hk h
   ·exact h
  ·split at h
   ·exact zaD hk h
   ·exact h
 ·unfold zkp at h⊢
  split at h
  ·refine⟨h.1,h.2.1,?_⟩
   have h3:=h.2.2
   unfold zjb at h3⊢
   split at h3
   ·split at h3
    ·exact hk _ h3
    ·exact h3
   ·exact h3
  ·exact h
 ·exact zrh hk h
 ·unfold zks at h⊢
  split at h
  ·exact zaD hk h
  ·split at h
   ·exact zaD hk h
   ·exact h
 ·exact zrh hk h
 ·unfold zku at h⊢
  split at h
  ·refine⟨h.1,?_⟩
   have h3:=h.2
   split at h3
   ·rename_i hh;rw[if_pos hh];exact hk _ h3
   ·rename_i hh;rw[if_neg hh];exact hk _ h3
  ·exact h
 ·unfold zoU at h⊢
  split at h
  ·refine⟨h.1,h.2.1,h.2.2.1,?_⟩
   have h3:=h.2.2.2
   split at h3
   ·rename_i hh;rw[if_pos hh]
    split at h3
    ·rename_i hh;rw[if_pos hh];exact hk _ h3
    ·rename_i hh;rw[if_neg hh];exact hk _ h3
   ·rename_i hh;rw[if_neg hh];exact hk _ h3
  ·exact h
 ·unfold zo1 at h⊢
  split at h
  ·rename_i hm
   rw[if_pos hm]
   unfold zoj at h⊢
   split at h
   ·exact zaD hk h
   ·exact h
  rename_i hm
  rw[if_neg hm]
  split at h
  ·refine⟨h.1,?_⟩
   have h3:=h.2
   unfold zp8 at h3⊢
   split at h3
   ·exact⟨h3.1,hk _ h3.2⟩
   ·exact h3
  ·exact h
 ·unfold zkx at h⊢
  split at h
  ·unfold ztM at h⊢
   split at h
   ·exact zaD hk h
   ·exact h
  ·exact h
 ·unfold zmG zun at h⊢
  split at h
  ·split at h
   ·exact zaD hk h
   ·exact h
  ·split at h
   ·exact zaD hk h
   ·exact h
  ·exact h
 ·unfold zmK at h⊢
  split at h
  ·unfold ztT at h⊢
   split at h
   ·exact⟨h.1,zaD hk h.2⟩
   ·exact h
  ·exact h
 ·unfold zmP at h⊢
  split at h
  ·rename_i hb
   rw[if_pos hb]
   split at h
   ·exact zaD hk h
   ·exact h
  ·rename_i hb
   rw[if_neg hb]
   split at h
   ·exact zaD hk h
   ·exact h
 ·unfold zhF at h⊢
  split at h
  ·unfold zgy at h⊢
   split at h
   ·refine⟨h.1,?_⟩
    have h3:=h.2
    split at h3
    ·rename_i hh;rw[if_pos hh];exact zaD hk h3
    ·rename_i hh;rw[if_neg hh];exact zaD hk h3
   ·exact⟨h.1,zaD hk h.2⟩
   ·exact zaD hk h
   ·exact h
   ·exact h
   ·split at h
    ·rename_i hh
     rw[if_pos hh]
     split at h
     ·exact zaD hk h
     ·exact h
    ·rename_i hh
     rw[if_neg hh]
     exact zaD hk h
   ·exact zaD hk h
  ·split at h
   ·exact zaD hk h
   ·exact h
 ·unfold zjj at h⊢
  split at h
  ·exact zaD hk h
  ·split at h
   ·exact zaD hk h
   ·exact h
 ·unfold zig at h⊢
  split at h
  ·refine⟨h.1,?_⟩
   have h2:=h.2
   unfold pex at h2⊢
   split at h2
   ·refine⟨h2.1,?_⟩
    have h3:=h2.2
    split at h3
    ·rename_i hh;rw[if_pos hh];exact zaD hk h3
    ·rename_i hh;rw[if_neg hh];exact zaD hk h3
   ·exact h2
  ·exact h
 ·split at h
  ·rename_i hh;rw[if_pos hh];exact zhC hk h
  ·rename_i hh;rw[if_neg hh]
   unfold zkN at h⊢
   split at h
   ·unfold zoW at h⊢
    split at h
    ·split at h
     ·exact zaD hk h
     ·exact h
    ·split at h
     ·exact⟨h.1,h.2.1,zaD hk h.2.2⟩
     ·exact h
    ·exact h
   ·exact h
 ·unfold zt3 at h⊢
  split at h
  ·split at h
   ·rename_i hh;rw[if_pos hh];exact zhC hk h
   ·rename_i hh;rw[if_neg hh]
    unfold zno at h⊢
    split at h
    ·split at h
     ·exact fun hl=>zaD hk (h hl)
     ·exact h
    ·exact h
  ·exact h
 ·unfold ztJ at h⊢
  split at h
  ·split at h
   ·rename_i htt
    rw[if_pos htt]
    unfold zoM at h⊢
    split at h
    ·unfold zp5 at h⊢
     split at h
     ·split at h
      ·unfold zqd at h⊢
       split at h
       ·exact⟨h.1,h.2.1,zaD hk h.2.2⟩
       ·exact h
      ·exact h
     ·exact h
    ·exact h
   ·rename_i htt
    rw[if_neg htt]
    unfold zoC at h⊢
    split at h
    ·refine⟨h.1,?_⟩
     have h:=h.2
     unfold zt0 at h⊢
     split at h
     ·split at h
      ·exact⟨h.1,zaD hk h.2⟩
      ·exact h
     ·exact h
    ·exact h
  ·exact h
 ·rcases h with⟨ms,h⟩|⟨g,x,t,n,z,a1,a2,a3,a4,a5,a6,h⟩|⟨ms,x,a1,a2,h⟩
  ·exact .inl ⟨ms,zm9 hk h⟩
  ·exact .inr (.inl ⟨g,x,t,n,z,a1,a2,a3,a4,a5,a6,zaD hk h⟩)
  ·exact .inr (.inr ⟨ms,x,a1,a2,zsn hk h⟩)
 all_goals first
  |exact zhC hk h
  | (split at h
     ·rename_i hh;rw[if_pos hh];exact⟨h.1,ztN hk h.2⟩
     ·rename_i hh;rw[if_neg hh];exact zhC hk h)
  | (split at h
     ·rename_i hh;rw[if_pos hh];exact⟨h.1,zuq hk h.2⟩
     ·rename_i hh;rw[if_neg hh];exact zhC hk h)
  |exact h
theorem ztu (hk:∀pf,K pf→K2 pf) {d:Option Tmp}{pf:PFr}(h:zil c d K pf):zil c d K2 pf:=by
 cases d with
 |none=>exact hk _ h
 |some d=>exact⟨h.1,hk _ h.2⟩
theorem zqn (hk:∀pf,K pf→K2 pf) {b:Bool}{d:Option Tmp}{r r2:Prop}(hr:r→r2) {pf:PFr}{y:Option (Option Bool)}(h:pgo c b d r K pf y):pgo c b d r2 K2 pf y:=by
 unfold pgo at h⊢
 split at h
 ·split at h
  ·rename_i hh;rw[if_pos hh];exact hr h
  ·rename_i hh;rw[if_neg hh];exact ztu hk h
 ·exact h
theorem zwt {pre:List (Option Tmp)}:∀{l:List Oper}{K K2:PFr→Prop}(_:∀pf,K pf→K2 pf) {pf:PFr},znA P c pre l K pf→znA P c pre l K2 pf:=by
 intro l
 induction l with
 |nil=>intro K K2 hk pf h;exact hk _ h
 |cons o l ih=>
  intro K K2 hk pf h
  simp only[znA,zmp]at h⊢
  split at h
  ·exact zlh (fun _ hh=>ih hk hh) h
  ·exact zqn (fun _ hh=>ih hk hh) (zlh fun _ hh=>ih hk hh) h
theorem zpA (hk:∀pf,K pf→K2 pf) {ext:Bool}{o:Oper}{pf:PFr}(h:ziK P c ext o K pf):ziK P c ext o K2 pf:=by
 unfold ziK at h⊢
 split at h
 ·split at h
  ·rename_i hx;rw[if_pos hx];exact zm9 hk h
  ·rename_i hx;rw[if_neg hx];exact zlh hk h
 ·exact⟨h.1,zlh hk h.2⟩
theorem zuc {pre:List (Option Tmp)}:∀{l:List (DE×Oper)}{K K2:PFr→Prop}(_:∀pf,K pf→K2 pf) {pf:PFr},zmD P c pre l K pf→zmD P c pre l K2 pf:=by
 intro l
 induction l with
 |nil=>intro K K2 hk pf h;exact hk _ h
 |cons x l ih=>
  obtain⟨e,o⟩:=x
  intro K K2 hk pf h
  refine⟨h.1,?_⟩
  have h2:=h.2
  unfold zov at h2⊢
  split at h2
  ·exact zpA (fun _ hh=>ih hk hh) h2
  ·exact zqn (fun _ hh=>ih hk hh) (zpA fun _ hh=>ih hk hh) h2
theorem znB:∀(x:Code) {Q Q2:Exit→PFr→Prop},(∀e pf,Q e pf→Q2 e pf)→∀{pf},pwp P c x Q pf→pwp P c x Q2 pf:=by
 intro x
 induction x with
 |skip=>intro Q Q2 hq pf h;exact hq _ _ h
 |region id ops draw=>
  intro Q Q2 hq pf h
  simp only[pwp]at h⊢
  split at h
  ·rename_i hd
   rw[if_pos hd]
   obtain⟨a,n,h⟩:=h
   exact⟨a,n,zkh (fun _=>zuc (hq .normal)) h⟩
  ·rename_i hd;rw[if_neg hd];exact zwt (hq .normal) h
 |seq x y ihx ihy=>
  intro Q Q2 hq pf h
  refine ihx (fun e pf h=>?_) h
  cases e<;>try exact hq _ _ h
  obtain⟨pf2,hw,h⟩:=h
  exact⟨pf2,hw,ihy hq h⟩
 |cond b x y ihx ihy=>
  intro Q Q2 hq pf h
  obtain⟨pf2,hw,h⟩:=h
  refine⟨pf2,hw,?_⟩
  unfold zwH at h⊢
  split at h
  ·split at h
   ·rename_i e;rw[if_pos e];exact ihx hq h
   ·rename_i e;rw[if_neg e];exact ihy hq h
  ·exact h
 |block id b ih=>
  intro Q Q2 hq pf h
  refine ih (fun e pf h=>?_) h
  cases e<;>try exact hq _ _ h
  simp only[zlI]at h⊢
  split at h
  ·rename_i e;rw[if_pos e];exact hq _ _ h
  ·rename_i e;rw[if_neg e];exact hq _ _ h
 |loop b ih=>
  intro Q Q2 hq pf h
  obtain⟨n,hn⟩:=h
  refine⟨n,?_⟩
  induction n generalizing pf with
  |zero=>exact hn
  |succ n ihn=>
   obtain⟨pf2,hw,hn⟩:=hn
   refine⟨pf2,hw,ih (fun e pf h=>?_) hn⟩
   cases e<;>first|exact ihn h|exact hq _ _ h
 |exit id=>intro Q Q2 hq pf h;exact hq _ _ h
 |ret=>intro Q Q2 hq pf h;exact hq _ _ h
 |_=>intros;rename_i h;exact absurd h (by simp[pwp])
end
section
variable {P:Program}{c:Cfg}{k:List PIt}{Q:Exit→PFr→Prop}{pf:PFr}
theorem zw9 {pf':PFr}(h:pf=pf'):pw P c k Q pf=pw P c k Q pf':=by rw[h]
@[go_sem ↓] theorem zOm:pw P c [] Q pf=Q .normal pf:=rfl
@[go_sem ↓] theorem zOZ {i:Nat}:pw P c (.blk i::k) Q pf=pw P c k Q pf:=rfl
@[go_sem ↓] theorem zMY:pw P c (.code .skip::k) Q pf=pw P c k Q pf:=rfl
@[go_sem ↓] theorem zrM {x y:Code}:pw P c (.code (.seq x y)::k) Q pf=pw P c (.code x::.wk y::k) Q pf:=by
 show pwp P c x (zxL (fun pf=>∃pf2,PWeak pf2 pf∧pwp P c y (zbT P c k Q) pf2) (zbT P c k Q)) pf=pwp P c x (zbT P c (.wk y::k) Q) pf
 congr 1
 funext e
 cases e<;>rfl
@[go_sem ↓] theorem pw_block {id:Nat}{b:Code}:pw P c (.code (.block id b)::k) Q pf=pw P c (.code b::.blk id::k) Q pf:=by
 show pwp P c b (zlI id (zbT P c k Q)) pf=pwp P c b (zbT P c (.blk id::k) Q) pf
 congr 1
 funext e
 cases e<;>try rfl
 funext pf
 simp only[zlI,zbT]
 split<;>rfl
theorem zl7:zbT P c k Q .ret=Q .ret:=by
 induction k with
 |nil=>rfl
 |cons it k ih=>exact ih
@[go_sem ↓] theorem zP5:pw P c (.code .ret::k) Q pf=Q .ret pf:=by
 show zbT P c k Q .ret pf=_
 rw[zl7]
def pwx (P:Program) (c:Cfg) (id:Nat) (k:List PIt) (Q:Exit→PFr→Prop) (pf:PFr):Prop:=zbT P c k Q (.exit id) pf
@[go_sem ↓] theorem zNe {id:Nat}:pw P c (.code (.exit id)::k) Q pf=pwx P c id k Q pf:=rfl
@[go_sem ↓] theorem zLg {id:Nat}:pwx P c id [] Q pf=Q (.exit id) pf:=rfl
@[go_sem ↓] theorem zI3 {id:Nat}{x:Code}:pwx P c id (.code x::k) Q pf=pwx P c id k Q pf:=rfl
@[go_sem ↓] theorem zOq {id:Nat}{x:Code}:pwx P c id (.wk x::k) Q pf=pwx P c id k Q pf:=rfl
@[go_sem ↓] theorem zNw {id:Nat}{pre:List (Option Tmp)}{l:List Oper}:pwx P c id (.ops pre l::k) Q pf=pwx P c id k Q pf:=rfl
@[go_sem ↓] theorem zHD {id:Nat}{pre:List (Option Tmp)}{l:List (DE×Oper)}:pwx P c id (.dops pre l::k) Q pf=pwx P c id k Q pf:=rfl
@[go_sem ↓] theorem zLe {id i:Nat}:pwx P c id (.blk i::k) Q pf=if id=i then pw P c k Q pf else pwx P c id k Q pf:=by
 show(zbT P c (.blk i::k) Q (.exit id)) pf=_
 simp only[zbT]
 split<;>rfl
def PFr.ofL:List (Nat×PF)→PFr
 |[],_=>jP
 |(s,x)::l,t=>if t=s then x else PFr.ofL l t
def zcH:List (Nat×PF)→PFr→Prop
 |[],_=>True
 |(s,x)::l,pf=>pf s=x∧zcH l pf
@[go_sem] theorem zCC {pf:PFr}:zcH [] pf=True:=rfl
@[go_sem] theorem zBA {s:Nat}{x:PF}{l:List (Nat×PF)}{pf:PFr}:zcH ((s,x)::l) pf=(pf s=x∧zcH l pf):=rfl
theorem zrj:∀{l:List (Nat×PF)}{pf:PFr},zcH l pf→∀t,PFr.ofL l t=pf t∨PFr.ofL l t=jP:=by
 intro l
 induction l with
 |nil=>intro pf _ t;exact .inr rfl
 |cons p l ih=>
  intro pf h t
  obtain⟨s,x⟩:=p
  obtain⟨h1,h2⟩:=h
  by_cases e:t=s
  ·subst e;left;simp[PFr.ofL,h1]
  ·rcases ih h2 t with e2|e2
   ·left;simpa[PFr.ofL,e]using e2
   ·right;simpa[PFr.ofL,e]using e2
theorem zin {l:List (Nat×PF)}{pf:PFr}(h:zcH l pf):PWeak (PFr.ofL l) pf:=.w (zrj h)
theorem zop:PWeak pf pf:=.w fun _=>.inl rfl
theorem zlK (s:Nat) {x:Code}{y:PV}(hs:pf s=.v y) (hy:isJ y=false) (h:pw P c (.wk x::k) Q ((pf.upd s (.v (drop y))).kill s 0)):pw P c (.wk x::k) Q pf:=
 let⟨pf2,h1,h2⟩:=h;⟨pf2,.f s y hs hy h1,h2⟩
theorem zqx:∀(row:List PV) (j:Nat) (y:PV),j<row.length→ze6 row j [y]=some (row.set j y)
 |[],_,_,h=>by simp at h
 |c::cs,0,y,_=>by cases cs<;>rfl
 |c::cs,j+1,y,h=>by
  show(ze6 cs j [y]).map (c:: ·)=some (c::cs.set j y)
  rw[zqx cs j y (by simpa using h)];rfl
theorem zwG {pf2 pf:PFr}(s j:Nat) {row:List PV}{y:PV}(hs:pf s=.bl row) (hy:row[j]? =some y) (hj:isJ y=false) (h:PWeak pf2 ((pf.upd s (.bl (row.set j (drop y)))).kill s 1)):PWeak pf2 pf:=by
 have hl:j<row.length:=(List.getElem?_eq_some_iff.1 hy).1
 refine .g s [(0,j)] y (by simp) ?_ hj ?_ h
 ·simp[zaw,hs,zbs,zeq,zc0,hy]
 ·simp[zb4,zeX,zdU,hs,zbs,ze1,zet,zqx _ _ _ hl,zf2]
theorem zmL (s j:Nat) {x:Code}{row:List PV}{y:PV}(hs:pf s=.bl row) (hy:row[j]? =some y) (hj:isJ y=false) (h:pw P c (.wk x::k) Q ((pf.upd s (.bl (row.set j (drop y)))).kill s 1)):pw P c (.wk x::k) Q pf:=
 let⟨pf2,h1,h2⟩:=h;⟨pf2,zwG s j hs hy hj h1,h2⟩
theorem zat {x:Code}(h:pw P c (.code x::k) Q pf):pw P c (.wk x::k) Q pf:=⟨pf,zop,h⟩
theorem zl1 {x:Code}(l:List (Nat×PF)) (ha:zcH l pf) (h:pw P c (.code x::k) Q (PFr.ofL l)):pw P c (.wk x::k) Q pf:=⟨PFr.ofL l,zin ha,h⟩
theorem znH {b:Operand}{x y:Code}{v:Bool}(hb:rdS pf b=some (.bool v)) (ht:v=true→pw P c (.code x::k) Q pf) (he:v=false→pw P c (.code y::k) Q pf):
 pw P c (.code (.cond b x y)::k) Q pf:=by
 refine⟨pf,zop,?_⟩
 rw[hb]
 cases v
 ·exact he rfl
 ·exact ht rfl
theorem zl4 {b:Operand}{x y:Code}(hb:rdS pf b=some (.bool true)) (ht:pw P c (.code x::k) Q pf):pw P c (.code (.cond b x y)::k) Q pf:=znH hb (fun _=>ht) (fun h=>by cases h)
theorem zlQ {b:Operand}{x y:Code}(hb:rdS pf b=some (.bool false)) (ht:pw P c (.code y::k) Q pf):pw P c (.code (.cond b x y)::k) Q pf:=znH hb (fun h=>by cases h) (fun _=>ht)
def zv7 {σ:Type}(shape:σ→List (Nat×PF)) (I:σ→Prop) (meas:σ→Nat) (n:Nat) (pf:PFr):Prop:=∃s,zcH (shape s) pf∧I s∧meas s<n
def zrF {σ:Type}(P:Program) (c:Cfg) (shape:σ→List (Nat×PF)) (I:σ→Prop) (meas:σ→Nat) (n:Nat) (k:List PIt) (Q:Exit→PFr→Prop):Exit→PFr→Prop
 | .normal,pf=>zv7 shape I meas n pf
 |e,pf=>zbT P c k Q e pf
@[go_sem ↓] theorem zzv {σ:Type}{shape:σ→List (Nat×PF)}{I:σ→Prop}{meas:σ→Nat}{n:Nat}:zrF P c shape I meas n k Q .normal pf=zv7 shape I meas n pf:=rfl
@[go_sem ↓] theorem zBJ {σ:Type}{shape:σ→List (Nat×PF)}{I:σ→Prop}{meas:σ→Nat}{n id:Nat}:zrF P c shape I meas n k Q (.exit id) pf=pwx P c id k Q pf:=rfl
@[go_sem ↓] theorem zDL {σ:Type}{shape:σ→List (Nat×PF)}{I:σ→Prop}{meas:σ→Nat}{n:Nat}:zrF P c shape I meas n k Q .ret pf=Q .ret pf:=by
 show zbT P c k Q .ret pf=_
 rw[zl7]
end
end Go.Pm
