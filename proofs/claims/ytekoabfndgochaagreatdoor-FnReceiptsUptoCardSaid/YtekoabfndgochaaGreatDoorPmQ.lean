import Derived.Test.YtekoabfndgochaaGreatDoorPmP
namespace Go.Pm
open Go.Am
def Cfg.nohp (c:Cfg):Cfg:={c with hp:=[]}
def zt3 (P:Program) (c:Cfg) (o:Oper) (K:PFr→Prop) (pf:PFr):List Operand→Array TypeId→Prop
 |[x],⟨[t]⟩=>if zaE P t=true then zeK P c o K pf else zno P c t x o.dst K pf
 |_,_=>False
def ztJ (P:Program) (c:Cfg) (d:Option Tmp) (K:PFr→Prop) (pf:PFr):List Operand→Array TypeId→Prop
 |[s,x],⟨[t,t']⟩=>if t=t' then zoM P c t s x d K pf else zoC P c t t' s x d K pf
 |_,_=>False
def pop (P:Program) (c:Cfg) (o:Oper) (K:PFr→Prop) (pf:PFr):Prop:=
 match o.op with
 | .load t a=>zmJ P c t a o.dst K pf
 | .store t a x=>zkp P c t a x o.dst K pf
 | .fieldAddr s x f=>zwm P c s x f o.dst K pf
 | .indexAddr t x i=>zks P c t x i o.dst K pf
 | .nilCheck x=>zA2 c x o.dst K pf
 | .alloc e=>zku P c e o.dst K pf
 | .box e x=>zoU P c e x o.dst K pf
 | .buildSlice t len ps=>zo1 P c t len ps.toList o.dst K pf
 | .build t ps=>zkx P c t ps.toList o.dst K pf
 | .pick b x y=>zmG c b x y o.dst K pf
 | .makeSlice t l cc=>zmK P c t l cc o.dst K pf
 | .makeFunc fn xs ys=>zmP c fn xs.toList ys.toList o.dst K pf
 | .move x=>zhF (ezT P o.type) c x o.dst K pf
 | .assign x=>zjj (ezT P o.type) c x o.dst K pf
 | .extract x i=>zig c x i o.dst K pf
 | .slice t x l h m=>if zaE P t=true then zeK P c o K pf else zkN P c t x l h m o.dst K pf
 | .call ⟨.builtin .len,args,ts⟩=>zt3 P c o K pf args.toList ts
 | .call ⟨.builtin .append,args,ts⟩=>ztJ P c o.dst K pf args.toList ts
 | .call ⟨.value f,args,ts⟩=>zx9 P c f args.toList ts.toList o.dst K pf
 | .convert s t x=>if zaE P t=true then(c.hp≠[]∨lsP pf x=true)∧zi7 P c s t x o.dst K pf else zeK P c o K pf
 | .call ⟨.builtin .min,_,_⟩| .call ⟨.builtin .max,_,_⟩| .unOp .. | .index .. =>zeK P c o K pf
 | .binOp op t x y _=>if zg5 y=true then c.hp≠[]∧zk5 P c op t x o.dst K pf else zeK P c o K pf
 |_=>False
def ygV:PF→Option (Option Bool)
 | .v (.bool b)=>some (some b)
 | .skip=>some none
 |_=>none
def ygP (pf:PFr):Option (Option Tmp)→Option (Option Bool)
 |some (some d)=>ygV (pf d)
 |_=>none
def zil (c:Cfg) (d:Option Tmp) (K:PFr→Prop) (pf:PFr):Prop:=
 match d with
 |some d=>ckd c d .skip=true∧K (pf.put d .skip)
 |none=>K pf
def pgo (c:Cfg) (b:Bool) (d:Option Tmp) (run:Prop) (K:PFr→Prop) (pf:PFr):Option (Option Bool)→Prop
 |some y=>if y=some b then run else zil c d K pf
 |none=>False
def zmp (P:Program) (c:Cfg) (pre:List (Option Tmp)) (o:Oper) (K:PFr→Prop) (pf:PFr):Prop:=
 match o.guard with
 |none=>pop P c o K pf
 |some (j,b)=>pgo c b o.dst (pop P c o K pf) K pf (ygP pf pre[j]?)
def znA (P:Program) (c:Cfg) (pre:List (Option Tmp)):List Oper→(PFr→Prop)→PFr→Prop
 |[],K,pf=>K pf
 |o::r,K,pf=>zmp P c pre o (znA P c pre r K) pf
def zt6:PF→Bool
 | .v x=> !isJ x
 |_=>false
def zug:Option PV→Bool
 |some x=> !isJ x
 |none=>false
def zfT (pf:PFr) (rg:List Nat) (ls:Bool) (t:Nat):PF→Bool
 | .v x=> !isJ x
 | .skip=>true
 | .ls _ _=>ls
 | .bl _=>rg.contains t
 | .pt s p _ _=>rg.contains s||(zt6 (pf s)|| !p.isEmpty)
 | .rf s p=>zug (zaw pf s p)
 | .rv _ _ _ _| .ra _ _ _ _ _| .cl _ _ _=>true
 | .as b _ _ _ _ _=>ls||b
def zqY:PF→Bool
 | .bl _=>true
 |_=>false
def znx (pf:PFr):PF→Bool
 | .bl _| .skip=>true
 | .pt s [] _ _=>zqY (pf s)
 |_=>false
def znE (pf:PFr):Option Nat→Bool
 |some t=>znx pf (pf t)
 |none=>true
def zlb (pf:PFr) (rg:List Nat) (ls:Bool):List Nat→Bool
 |[]=>true
 |t::r=>zfT pf rg ls t (pf t)&&zlb pf rg ls r
def zcD:Op→Bool
 | .store .. =>false
 | .call ⟨.builtin .append,_,_⟩=>false
 | .call ⟨.builtin .copy,_,_⟩=>false
 |_=>true
def ziK (P:Program) (c:Cfg) (ext:Bool) (o:Oper) (K:PFr→Prop) (pf:PFr):Prop:=
 match o.op with
 | .call ⟨.value f,args,ts⟩=>if ext=true then zl3 P c f args.toList ts.toList o.dst K pf (List.replicate args.toList.length .sh)else pop P c.nohp o K pf
 |_=>(ext=true→zcD o.op=true)∧pop P c.nohp o K pf
def zov (P:Program) (c:Cfg) (pre:List (Option Tmp)) (ext:Bool) (o:Oper) (K:PFr→Prop) (pf:PFr):Prop:=
 match o.guard with
 |none=>ziK P c ext o K pf
 |some (j,b)=>pgo c b o.dst (ziK P c ext o K pf) K pf (ygP pf pre[j]?)
def zpc (P:Program) (c:Cfg) (pre:List (Option Tmp)) (e:DE) (o:Oper) (K:PFr→Prop) (pf:PFr):Prop:=
 (zlb pf e.rg e.ls e.sl&&znE pf e.mr)=true∧zov P c pre e.ex o K pf
def zmD (P:Program) (c:Cfg) (pre:List (Option Tmp)):List (DE×Oper)→(PFr→Prop)→PFr→Prop
 |[],K,pf=>K pf
 |(e,o)::r,K,pf=>zpc P c pre e o (zmD P c pre r K) pf
inductive PWeak:PFr→PFr→Prop where
 |w {pf2 pf:PFr}(h:∀t,pf2 t=pf t∨pf2 t=jP):PWeak pf2 pf
 |f {pf2 pf:PFr}(s:Nat) (x:PV) (hs:pf s=.v x) (hx:isJ x=false) (h:PWeak pf2 ((pf.upd s (.v (drop x))).kill s 0)):PWeak pf2 pf
 |g {pf2 pf pf1:PFr}(s:Nat) (p:zad) (x:PV) (hp:p≠[]) (hs:zaw pf s p=some x) (hx:isJ x=false) (h1:zb4 pf s p (drop x)=some pf1) (h:PWeak pf2 pf1):PWeak pf2 pf
theorem RelP.wk {nt:Nat}{pin:List (Nat×Value)}{E0:Env}{fr:FR}:∀{pf2 pf:PFr},PWeak pf2 pf→∀{E:Env},RelP nt pin E0 E pf fr→∃E',RelP nt pin E0 E' pf2 fr∧E'.H=E.H:=by
 intro pf2 pf h
 induction h with
 |w h=>intro E r;exact⟨E,r.weak h,rfl⟩
 |f s x hs hx _ ih=>
  intro E r
  rename_i pf _
  have hxj:=zeW hx
  have ht:s<nt:=by
   rcases Nat.lt_or_ge s nt with h1|h1
   ·exact h1
   ·have:=r.hi s h1;rw[hs]at this;cases this;exact absurd rfl hxj
  obtain⟨v,a1,a2,a3⟩:=r.freezeAt (s:=s) (p:=[]) ht (by simp[zaw,hs,zbs,zeq]) hxj (.inr ⟨x,hs⟩) rfl
  obtain⟨E',b1,b2⟩:=ih a2
  exact⟨E',b1,b2⟩
 |g s p x hp hs hx h1 _ ih=>
  intro E r
  have ht:s<nt:=by
   rcases Nat.lt_or_ge s nt with h2|h2
   ·exact h2
   ·have:=r.hi s h2
    cases p with
    |nil=>exact absurd rfl hp
    |cons a p=>rw[zaw,this]at hs;cases hs
  obtain⟨v,a1,a2,a3⟩:=r.freezeAt ht hs (zeW hx) (.inl hp) h1
  obtain⟨E',b1,b2⟩:=ih a2
  exact⟨E',b1,b2⟩
def zij (body:(Exit→PFr→Prop)→PFr→Prop) (Q:Exit→PFr→Prop):Nat→PFr→Prop
 |0,_=>False
 |n+1,pf=>∃pf2,PWeak pf2 pf∧body (fun e pf'=>match e with| .normal=>zij body Q n pf'|e=>Q e pf') pf2
def zxL (K:PFr→Prop) (Q:Exit→PFr→Prop):Exit→PFr→Prop
 | .normal,pf=>K pf
 |e,pf=>Q e pf
def zlI (id:Nat) (Q:Exit→PFr→Prop):Exit→PFr→Prop
 | .exit i,pf=>if i=id then Q .normal pf else Q (.exit i) pf
 |e,pf=>Q e pf
def zwH (b:Option Value) (x y:Prop):Prop:=
 match b with
 |some (.bool b)=>if b=true then x else y
 |_=>False
def pwp (P:Program) (c:Cfg):Code→(Exit→PFr→Prop)→PFr→Prop
 | .skip,Q=>Q .normal
 | .region _ ops draw,Q=>fun pf=>if draw=true then
  P.follows .mixedOrders=true∧∃n,zjJ (fun D=>zmD P c (ops.toList.map (·.dst)) (D.map fun x=>(x,ops.toList.getD x.i default)) (Q .normal) pf) ops.toList n []
  else znA P c (ops.toList.map (·.dst)) ops.toList (Q .normal) pf
 | .seq x y,Q=>pwp P c x (zxL (fun pf=>∃pf2,PWeak pf2 pf∧pwp P c y Q pf2) Q)
 | .cond b x y,Q=>fun pf=>∃pf2,PWeak pf2 pf∧zwH (rdS pf2 b) (pwp P c x Q pf2) (pwp P c y Q pf2)
 | .block id b,Q=>pwp P c b (zlI id Q)
 | .loop b,Q=>fun pf=>∃n,zij (pwp P c b) Q n pf
 | .exit id,Q=>Q (.exit id)
 | .ret,Q=>Q .ret
 |_,_=>fun _=>False
def zmH (pf:PFr) (t:Nat):PF→Option (Bool×Nat)→Option (PV×PFr)
 | .bl row,some (true,sz)=>if sz=row.length then some (.agg row,(pf.upd t jP).kill t 0)else none
 | .bl (x::_),some (false,_)=>some (x,(pf.upd t jP).kill t 0)
 |_,_=>none
def zk0 (P:Program) (pf:PFr):ResultVar→Option (PV×PFr)
 | .tmp t=>if zh9 (pf t)=true then none else zeI pf t (pf t)
 | .cell t ty=>zmH pf t (pf t) (tk P ty)
def zhJ (P:Program) (pf:PFr):List ResultVar→Option (List PV×PFr)
 |[]=>some ([],pf)
 |x::xs=>(zk0 P pf x).bind fun a=>(zhJ P a.2 xs).map fun b=>(a.1::b.1,b.2)
def zqA:List PV→PV
 |[]=>.junk
 |[x]=>x
 |x::y::l=>.tup (x::y::l)
def ztK:PF→PV
 | .v y=>y
 |_=>.junk
def zfW (pf:PFr):Nat→List (Md×PV)→List PV
 |_,[]=>[]
 |k,(.io,_)::l=>ztK (pf k)::zfW pf (k+1) l
 |k,_::l=>.junk::zfW pf (k+1) l
def zmE (as:List (Md×PV)) (R:PV→List PV→Prop):Option (List PV×PFr)→Prop
 |some x=>R (zqA x.1) (zfW x.2 0 as)
 |none=>False
def zjM (P:Program) (rs:List ResultVar) (as:List (Md×PV)) (R:PV→List PV→Prop):Exit→PFr→Prop
 | .normal,pf| .ret,pf=>zmE as R (zhJ P pf rs)
 |_,_=>False
def zo0:Option (Md×PV)→PF
 |some a=>.v a.2
 |none=>jP
def zha (as:List (Md×PV)):PFr:=fun t=>zo0 as[t]?
def ioL:Nat→List (Md×PV)→List Nat
 |_,[]=>[]
 |k,(.io,_)::l=>k::ioL (k+1) l
 |k,_::l=>ioL (k+1) l
section
variable {nt:Nat}{pin:List (Nat×Value)}{E0 E E':Env}{pf:PFr}{fr fr':FR}{c:Cfg}{P:Program}
theorem zj0 (r:RelP c.nt pin E0 E pf fr) (hp:PinOK c pin) {o:Oper}{K:PFr→Prop}{K':FR→AH→Prop}(h:pop P c o K pf)
 (hk:∀pf' fr' E',K pf'→RelP c.nt pin E0 E' pf' fr'→K' fr' E'.H):aop P c.nt o K' fr E.H∨(c.hp≠[]∧ahp P c.nt o K' fr E.H):=by
 have hsc:(zbj o.op).isSome=true→zeK P c o K pf→zaM P c.nt o K' fr E.H:=fun _ h=>zeb r hp h hk
 unfold pop at h
 split at h
 ·rename_i ho
  refine .inl ?_
  have:=zr7 r hp h hk
  unfold aop;rw[ho];exact this
 ·rename_i ho;exact .inl (zrI r ho h hk)
 ·rename_i ho;exact .inl (zqp r hp ho h hk)
 ·rename_i ho;exact .inl (zqr r hp ho h hk)
 ·rename_i ho;exact .inl (zuu r hp ho h hk)
 ·rename_i ho;exact zqO r hp ho h hk
 ·rename_i ho;exact ztX r hp ho h hk
 ·rename_i ho;exact .inl (zuj r hp ho h hk)
 ·rename_i ho;exact .inl (zrK r hp ho h hk)
 ·rename_i ho;exact .inl (zrR r hp ho h hk)
 ·rename_i ho;exact .inl (zsd r hp ho h hk)
 ·rename_i ho;exact zsv r hp ho h hk
 ·rename_i ho;exact zrZ r hp ho h hk
 ·rename_i ho;exact .inl (zpI r hp ho h hk)
 ·rename_i ho;exact .inl (zo2 r hp ho h hk)
 ·rename_i ho
  split at h
  ·left
   have:=zeb r hp h hk
   unfold aop;rw[ho];exact this
  ·exact .inl (zqi r hp ho h hk)
 ·rename_i args ts ho
  left
  unfold zt3 at h
  split at h
  ·rename_i x t ha
   split at h
   ·have:=zeb r hp h hk
    unfold aop;rw[ho];exact this
   ·exact ztY r hp ho ha h hk
  ·cases h
 ·rename_i args ts ho
  unfold ztJ at h
  split at h
  ·rename_i s x t t' ha
   split at h
   ·rename_i htt
    subst htt
    exact .inl (ztD r hp ho ha h hk)
   ·exact .inr (zrV r hp ho ha h hk)
  ·cases h
 ·rename_i ho;exact .inl (zsb r hp ho h hk)
 ·rename_i s t x ho
  split at h
  ·rcases h.1 with h1|h1
   ·exact .inr ⟨h1,zm3 r hp ho h.2 hk⟩
   ·exact .inl (zy2 r ho h1 (zm3 r hp ho h.2 hk))
  ·left;have:=zeb r hp h hk;unfold aop;rw[ho];exact .inl this
 ·rename_i ho;left;have:=zeb r hp h hk;unfold aop;rw[ho];exact this
 ·rename_i ho;left;have:=zeb r hp h hk;unfold aop;rw[ho];exact this
 ·rename_i ho;left;have:=zeb r hp h hk;unfold aop;rw[ho];exact this
 ·rename_i ho;left;have:=zeb r hp h hk;unfold aop;rw[ho];exact this
 ·rename_i op t x y u ho
  split at h
  ·rename_i hy
   exact .inr ⟨h.1,zst r hp ho hy h.2 hk⟩
  ·left;have:=zeb r hp h hk;unfold aop;rw[ho];exact this
 ·cases h
theorem zng (r:RelP c.nt pin E0 E pf fr) (hp:PinOK c pin) {d:Option Tmp}{K:PFr→Prop}{K':FR→AH→Prop}(h:zil c d K pf) (hk:∀pf' fr' E',K pf'→RelP c.nt pin E0 E' pf' fr'→E'.H=E.H→K' fr' E'.H):zas c.nt K' d .skip fr E.H:=by
 cases d with
 |none=>exact hk _ _ _ h r rfl
 |some d=>
  obtain⟨h1,h2⟩:=h
  obtain⟨c1,c2⟩:=zkR h1
  simp only[zas,if_pos c1]
  exact hk _ _ E h2 (r.set c1 (fun w hw=>c2 (hp.h d w hw)) (GK.refl E) (fun s _ _=>.refl _) (Since.refl E) r.wf r.fresh (by show(fr.put d .skip) d=.skip;simp[FR.put]) (fun s hs=>by cases hs)) rfl
theorem zrE (r:RelP nt pin E0 E pf fr) {pre:List (Option Tmp)}{j:Nat}{y:Option Bool}(h:ygP pf pre[j]? =some y):zeS fr pre j=some y:=by
 unfold ygP at h
 split at h
 ·rename_i d hd
  unfold zeS
  rw[hd]
  simp only
  have hf:=r.f d
  unfold ygV at h
  split at h
  ·rename_i b hb
   rw[hb]at hf
   obtain⟨v,h1,h2⟩:=zct hf (by simp)
   cases h2
   rw[h1]
   exact h
  ·rename_i hb
   rw[hb]at hf
   have hf:fr d=.skip:=hf
   rw[hf];exact h
  ·cases h
 ·cases h
theorem zup (r:RelP c.nt pin E0 E pf fr) (hp:PinOK c pin) {pre:List (Option Tmp)}{o:Oper}{K:PFr→Prop}{K':FR→AH→Prop}(h:zmp P c pre o K pf)
 (hk:∀pf' fr' E',K pf'→RelP c.nt pin E0 E' pf' fr'→K' fr' E'.H):zmd P c.nt pre o K' fr E.H:=by
 unfold zmp at h
 unfold zmd
 split at h
 ·rename_i hg
  rw[hg]
  rcases zj0 r hp h hk with h|h
  ·exact .inl h
  ·exact .inr h.2
 ·rename_i j b hg
  rw[hg]
  simp only
  unfold pgo at h
  split at h
  ·rename_i y hy
   rw[zrE r hy]
   simp only
   split at h
   ·rename_i e
    rw[if_pos e]
    rcases zj0 r hp h hk with h|h
    ·exact .inl h
    ·exact .inr h.2
   ·rename_i e
    rw[if_neg e]
    exact zng r hp h fun pf' fr' E' a b _=>hk pf' fr' E' a b
  ·cases h
theorem ztA (hp:PinOK c pin) {pre:List (Option Tmp)}:∀{l:List Oper}{E:Env}{pf:PFr}{fr:FR}{K:PFr→Prop}{K':FR→AH→Prop},RelP c.nt pin E0 E pf fr→znA P c pre l K pf→
 (∀pf' fr' E',K pf'→RelP c.nt pin E0 E' pf' fr'→K' fr' E'.H)→zhf P c.nt pre l K' fr E.H:=by
 intro l
 induction l with
 |nil=>intro E pf fr K K' r h hk;exact hk _ _ _ h r
 |cons o l ih=>
  intro E pf fr K K' r h hk
  rw[zpC]
  exact zup r hp h fun pf' fr' E' a b=>ih b a hk
theorem zf0 {nt:Nat}{K':FR→AH→Prop}{d:Option Tmp}{x:FV}{fr:FR}{H H0:AH}(he:Ext H0 H) (h:zas nt K' d x fr H):zas nt (fun fr' H'=>Ext H0 H'∧K' fr' H') d x fr H:=by
 unfold zas at h⊢
 split at h
 ·split at h
  ·rename_i hd;simp only[hd,if_true];exact⟨he,h⟩
  ·cases h
 ·exact⟨he,h⟩
theorem zyV {o:Oper}{K':FR→AH→Prop}{H:AH}(hw:WFH H) (he:zcD o.op=true) (hc:∀f args ts,o.op≠.call ⟨.value f,args,ts⟩) (h:aop P nt o K' fr H):aop P nt o (fun fr' H'=>Ext H H'∧K' fr' H') fr H:=by
 have hplain:∀{o:Oper},zaM P nt o K' fr H→zaM P nt o (fun fr' H'=>Ext H H'∧K' fr' H') fr H:=by
  intro o h
  unfold zaM at h⊢
  split at h
  ·split at h
   ·rename_i hm
    split at h
    ·rename_i hv;exact zf0 (znp hw hm) h
    ·cases h
   ·cases h
  ·cases h
 unfold aop at h⊢
 split at h
 ·rename_i ho
  split at h
  ·rename_i v hv;exact zf0 (.refl H) h
  ·cases h
 ·split at h
  ·exact zf0 (.refl H) h
  ·cases h
 ·split at h
  ·exact zf0 (.refl H) h
  ·cases h
 ·refine h.imp (fun h=>?_) fun⟨u,l,es,cs,k,j,e,g,r,a1,a2,a3,a4,a5,a6,a7⟩=>⟨u,l,es,cs,k,j,e,g,r,a1,a2,a3,a4,a5,a6,zf0 ⟨Nat.le_succ _,fun id k hk=>?_⟩ a7⟩
  ·split at h
   ·exact zf0 (.refl H) h
   ·cases h
  ·have:=hw id k hk
   simp only[AH.push]
   rw[if_neg (by omega)];exact hk
 ·split at h
  ·split at h
   ·rename_i hc';rw[if_pos hc'];exact⟨.refl H,h⟩
   ·cases h
  ·cases h
 ·split at h
  ·split at h
   ·rename_i hc';rw[if_pos hc'];exact⟨.refl H,h⟩
   ·cases h
  ·cases h
 ·split at h
  ·rename_i hm
   split at h
   ·split at h
    ·rename_i hc'
     rw[if_pos hc']
     split at h
     ·rename_i hf;exact⟨znp hw hm,h⟩
     ·cases h
    ·cases h
   ·cases h
  ·cases h
 ·rename_i ho;rw[ho]at he;cases he
 ·split at h
  ·split at h
   ·rename_i hv;exact zf0 (.refl H) h
   ·cases h
  ·split at h
   ·rename_i hv;exact zf0 (.refl H) h
   ·cases h
  ·cases h
 ·split at h
  ·split at h
   ·split at h
    ·rename_i hc'
     rw[if_pos hc']
     refine zf0 ⟨Nat.le_succ _,fun id k hk=>?_⟩ h
     have:=hw id k hk
     simp only[AH.push]
     rw[if_neg (by omega)];exact hk
    ·cases h
   ·cases h
  ·cases h
 ·rename_i ho;rw[ho]at he;cases he
 ·rename_i ho;rw[ho]at he;cases he
 ·rename_i f args ts ho;exact absurd ho (hc f args _)
 ·split at h
  ·exact zf0 (.refl H) h
  ·exact hplain h
 ·split at h
  ·exact zf0 (.refl H) h
  ·exact hplain h
 ·exact h.imp hplain fun⟨h1,l,ns,h2,h3⟩=>⟨h1,l,ns,h2,zf0 (.refl H) h3⟩
 ·exact hplain h
end
end Go.Pm
