import Derived.Test.YtplemekcclpaoaaGreatDoorPmP
namespace Go.Pm
open Go.Am
def Cfg.nohp(c:Cfg):Cfg:={c with hp:=[]}
def zu8(P:Program)(c:Cfg)(o:Oper)(K:PFr→Prop)(pf:PFr):List Operand→Array TypeId→Prop
 |[x],⟨[t]⟩=>if zaE P t=true then zeP P c o K pf else zn2 P c t x o.dst K pf
 |_,_=>False
def zvc(P:Program)(c:Cfg)(d:Option Tmp)(K:PFr→Prop)(pf:PFr):List Operand→Array TypeId→Prop
 |[s,x],⟨[t,t']⟩=>if t=t' then zpm P c t s x d K pf else zos P c t t' s x d K pf
 |_,_=>False
def pop(P:Program)(c:Cfg)(o:Oper)(K:PFr→Prop)(pf:PFr):Prop:=
 match o.op with
 | .load t a=>zmW P c t a o.dst K pf
 | .store t a x=>zkx P c t a x o.dst K pf
 | .fieldAddr s x f=>zvC P c s x f o.dst K pf
 | .indexAddr t x i=>zkF P c t x i o.dst K pf
 | .nilCheck x=>zAM c x o.dst K pf
 | .alloc e=>zkt P c e o.dst K pf
 | .box e x=>zpP P c e x o.dst K pf
 | .buildSlice t len ps=>zpE P c t len ps.toList o.dst K pf
 | .build t ps=>zkJ P c t ps.toList o.dst K pf
 | .pick b x y=>zmJ c b x y o.dst K pf
 | .makeSlice t l cc=>zmS P c t l cc o.dst K pf
 | .makeFunc fn xs ys=>zmT c fn xs.toList ys.toList o.dst K pf
 | .move x=>zhZ (ezT P o.type) c x o.dst K pf
 | .assign x=>zjo (ezT P o.type) c x o.dst K pf
 | .extract x i=>ziE c x i o.dst K pf
 | .slice t x l h m=>if zaE P t=true then zeP P c o K pf else zks P c t x l h m o.dst K pf
 | .call ⟨.builtin .len,args,ts⟩=>zu8 P c o K pf args.toList ts
 | .call ⟨.builtin .append,args,ts⟩=>zvc P c o.dst K pf args.toList ts
 | .call ⟨.builtin .clear,args,ts⟩=>zvg P c o.dst K pf args.toList ts
 | .call ⟨.value f,args,ts⟩=>zyY P c f args.toList ts.toList o.dst K pf
 | .convert s t x=>if zaE P t=true then(c.hp≠[]∨lsP pf x=true)∧zjg P c s t x o.dst K pf else zeP P c o K pf
 | .call ⟨.builtin .min,_,_⟩| .call ⟨.builtin .max,_,_⟩| .unOp .. | .index .. =>zeP P c o K pf
 | .binOp op t x y _=>if zhi y=true then c.hp≠[]∧zle P c op t x o.dst K pf else zeP P c o K pf
 |_=>False
def ygV:PF→Option (Option Bool)
 | .v (.bool b)=>some (some b)
 | .skip=>some none
 |_=>none
def ygP(pf:PFr):Option (Option Tmp)→Option (Option Bool)
 |some (some d)=>ygV (pf d)
 |_=>none
def ziI(c:Cfg)(d:Option Tmp)(K:PFr→Prop)(pf:PFr):Prop:=
 match d with
 |some d=>ckd c d .skip=true∧K (pf.put d .skip)
 |none=>K pf
def pgo(c:Cfg)(b:Bool)(d:Option Tmp)(run:Prop)(K:PFr→Prop)(pf:PFr):Option (Option Bool)→Prop
 |some y=>if y=some b then run else ziI c d K pf
 |none=>False
def zmC(P:Program)(c:Cfg)(pre:List (Option Tmp))(o:Oper)(K:PFr→Prop)(pf:PFr):Prop:=
 match o.guard with
 |none=>pop P c o K pf
 |some (j,b)=>pgo c b o.dst (pop P c o K pf) K pf (ygP pf pre[j]?)
def znz(P:Program)(c:Cfg)(pre:List (Option Tmp)):List Oper→(PFr→Prop)→PFr→Prop
 |[],K,pf=>K pf
 |o::r,K,pf=>zmC P c pre o (znz P c pre r K) pf
def zuq:PF→Bool
 | .v x=> !isJ x
 |_=>false
def zuH:Option PV→Bool
 |some x=> !isJ x
 |none=>false
def zfQ(pf:PFr)(rg:List Nat)(ls:Bool)(t:Nat):PF→Bool
 | .v x=> !isJ x
 | .skip=>true
 | .ls _ _=>ls
 | .bl _=>rg.contains t
 | .pt s p _ _=>rg.contains s||(zuq (pf s)|| !p.isEmpty)
 | .rf s p=>zuH (zaz pf s p)
 | .rv _ _ _ _| .ra _ _ _ _ _| .cl _ _ _=>true
 | .as b _ _ _ _ _=>ls||b
def zrP:PF→Bool
 | .bl _=>true
 |_=>false
def zn5(pf:PFr):PF→Bool
 | .bl _| .skip=>true
 | .pt s [] _ _=>zrP (pf s)
 |_=>false
def zny(pf:PFr):Option Nat→Bool
 |some t=>zn5 pf (pf t)
 |none=>true
def zlw(pf:PFr)(rg:List Nat)(ls:Bool):List Nat→Bool
 |[]=>true
 |t::r=>zfQ pf rg ls t (pf t)&&zlw pf rg ls r
def zcs:Op→Bool
 | .store .. =>false
 | .call ⟨.builtin .append,_,_⟩=>false
 | .call ⟨.builtin .copy,_,_⟩=>false
 |_=>true
def ziZ(P:Program)(c:Cfg)(ext:Bool)(o:Oper)(K:PFr→Prop)(pf:PFr):Prop:=
 match o.op with
 | .call ⟨.value f,args,ts⟩=>if ext=true then zmy P c f args.toList ts.toList o.dst K pf (List.replicate args.toList.length .sh)else pop P c.nohp o K pf
 |_=>(ext=true→zcs o.op=true)∧pop P c.nohp o K pf
def zok(P:Program)(c:Cfg)(pre:List (Option Tmp))(ext:Bool)(o:Oper)(K:PFr→Prop)(pf:PFr):Prop:=
 match o.guard with
 |none=>ziZ P c ext o K pf
 |some (j,b)=>pgo c b o.dst (ziZ P c ext o K pf) K pf (ygP pf pre[j]?)
def zo0(P:Program)(c:Cfg)(pre:List (Option Tmp))(e:DE)(o:Oper)(K:PFr→Prop)(pf:PFr):Prop:=
 (zlw pf e.rg e.ls e.sl&&zny pf e.mr)=true∧zok P c pre e.ex o K pf
def zm2(P:Program)(c:Cfg)(pre:List (Option Tmp)):List (DE×Oper)→(PFr→Prop)→PFr→Prop
 |[],K,pf=>K pf
 |(e,o)::r,K,pf=>zo0 P c pre e o (zm2 P c pre r K) pf
inductive PWeak:PFr→PFr→Prop where
 |w {pf2 pf:PFr}(h:∀t,pf2 t=pf t∨pf2 t=jP):PWeak pf2 pf
 |f {pf2 pf:PFr}(s:Nat) (x:PV) (hs:pf s=.v x) (hx:isJ x=false) (h:PWeak pf2 ((pf.upd s (.v (drop x))).kill s 0)):PWeak pf2 pf
 |g {pf2 pf pf1:PFr}(s:Nat) (p:zad) (x:PV) (hp:p≠[]) (hs:zaz pf s p=some x) (hx:isJ x=false) (h1:zck pf s p (drop x)=some pf1) (h:PWeak pf2 pf1):PWeak pf2 pf
theorem RelP.wk{nt:Nat}{pin:List (Nat×Value)}{E0:Env}{fr:FR}:∀{pf2 pf:PFr},PWeak pf2 pf→∀{E:Env},RelP nt pin E0 E pf fr→∃E',RelP nt pin E0 E' pf2 fr∧E'.H=E.H:=by
 intro pf2 pf h;induction h with
 |w h=>intro E r;exact⟨E,r.weak h,rfl⟩
 |f s x hs hx _ ih=>
  intro E r;rename_i pf _;have hxj:=ze5 hx
  have ht:s<nt:=by
   rcases Nat.lt_or_ge s nt with h1|h1
   ·exact h1
   ·have:=r.hi s h1;rw[hs]at this;cases this;exact absurd rfl hxj
  obtain⟨v,a1,a2,a3⟩:=r.freezeAt (s:=s) (p:=[]) ht (by simp[zaz,hs,zbs,zeN]) hxj (.inr ⟨x,hs⟩) rfl;obtain⟨E',b1,b2⟩:=ih a2;exact⟨E',b1,b2⟩
 |g s p x hp hs hx h1 _ ih=>
  intro E r
  have ht:s<nt:=by
   rcases Nat.lt_or_ge s nt with h2|h2
   ·exact h2
   ·have:=r.hi s h2;cases p with
    |nil=>exact absurd rfl hp
    |cons a p=>rw[zaz,this]at hs;cases hs
  obtain⟨v,a1,a2,a3⟩:=r.freezeAt ht hs (ze5 hx) (.inl hp) h1;obtain⟨E',b1,b2⟩:=ih a2;exact⟨E',b1,b2⟩
def ziz(body:(Exit→PFr→Prop)→PFr→Prop)(Q:Exit→PFr→Prop):Nat→PFr→Prop
 |0,_=>False
 |n+1,pf=>∃pf2,PWeak pf2 pf∧body (fun e pf'=>match e with| .normal=>ziz body Q n pf'|e=>Q e pf') pf2
def zy5(K:PFr→Prop)(Q:Exit→PFr→Prop):Exit→PFr→Prop
 | .normal,pf=>K pf
 |e,pf=>Q e pf
def zmj(id:Nat)(Q:Exit→PFr→Prop):Exit→PFr→Prop
 | .exit i,pf=>if i=id then Q .normal pf else Q (.exit i) pf
 |e,pf=>Q e pf
def zxX(b:Option Value)(x y:Prop):Prop:=
 match b with
 |some (.bool b)=>if b=true then x else y
 |_=>False
def pwp(P:Program)(c:Cfg):Code→(Exit→PFr→Prop)→PFr→Prop
 | .skip,Q=>Q .normal
 | .region _ ops draw,Q=>fun pf=>if draw=true then
  P.follows .mixedOrders=true∧∃n,zjM (fun D=>zm2 P c (ops.toList.map (·.dst)) (D.map fun x=>(x,ops.toList.getD x.i default)) (Q .normal) pf) ops.toList n []
  else znz P c (ops.toList.map (·.dst)) ops.toList (Q .normal) pf
 | .seq x y,Q=>pwp P c x (zy5 (fun pf=>∃pf2,PWeak pf2 pf∧pwp P c y Q pf2) Q)
 | .cond b x y,Q=>fun pf=>∃pf2,PWeak pf2 pf∧zxX (rdS pf2 b) (pwp P c x Q pf2) (pwp P c y Q pf2)
 | .block id b,Q=>pwp P c b (zmj id Q)
 | .loop b,Q=>fun pf=>∃n,ziz (pwp P c b) Q n pf
 | .exit id,Q=>Q (.exit id)
 | .ret,Q=>Q .ret
 |_,_=>fun _=>False
def zmR(pf:PFr)(t:Nat):PF→Option (Bool×Nat)→Option (PV×PFr)
 | .bl row,some (true,sz)=>if sz=row.length then some (.agg row,(pf.upd t jP).kill t 0)else none
 | .bl (x::_),some (false,_)=>some (x,(pf.upd t jP).kill t 0)
 |_,_=>none
def zlv(P:Program)(pf:PFr):ResultVar→Option (PV×PFr)
 | .tmp t=>if zio (pf t)=true then none else zeO pf t (pf t)
 | .cell t ty=>zmR pf t (pf t) (tk P ty)
def zhT(P:Program)(pf:PFr):List ResultVar→Option (List PV×PFr)
 |[]=>some ([],pf)
 |x::xs=>(zlv P pf x).bind fun a=>(zhT P a.2 xs).map fun b=>(a.1::b.1,b.2)
def zq5:List PV→PV
 |[]=>.junk
 |[x]=>x
 |x::y::l=>.tup (x::y::l)
def zuS:PF→PV
 | .v y=>y
 |_=>.junk
def zfZ(pf:PFr):Nat→List (Md×PV)→List PV
 |_,[]=>[]
 |k,(.io,_)::l=>zuS (pf k)::zfZ pf (k+1) l
 |k,_::l=>.junk::zfZ pf (k+1) l
def zmK(as:List (Md×PV))(R:PV→List PV→Prop):Option (List PV×PFr)→Prop
 |some x=>R (zq5 x.1) (zfZ x.2 0 as)
 |none=>False
def zjK(P:Program)(rs:List ResultVar)(as:List (Md×PV))(R:PV→List PV→Prop):Exit→PFr→Prop
 | .normal,pf| .ret,pf=>zmK as R (zhT P pf rs)
 |_,_=>False
def zoY:Option (Md×PV)→PF
 |some a=>.v a.2
 |none=>jP
def zhj(as:List (Md×PV)):PFr:=fun t=>zoY as[t]?
def ioL:Nat→List (Md×PV)→List Nat
 |_,[]=>[]
 |k,(.io,_)::l=>k::ioL (k+1) l
 |k,_::l=>ioL (k+1) l
section
variable {nt:Nat}{pin:List (Nat×Value)}{E0 E E':Env}{pf:PFr}{fr fr':FR}{c:Cfg}{P:Program}
variable{K:PFr→Prop}{K':FR→AH→Prop}{o:Oper}{pre:List (Option Tmp)}
theorem zjZ(r:RelP c.nt pin E0 E pf fr)(hp:PinOK c pin)(h:pop P c o K pf)
(hk:∀pf' fr' E',K pf'→RelP c.nt pin E0 E' pf' fr'→K' fr' E'.H):aop P c.nt o K' fr E.H∨(c.hp≠[]∧ahp P c.nt o K' fr E.H):=by
 have hsc:(zaJ o.op).isSome=true→zeP P c o K pf→zaB P c.nt o K' fr E.H:=fun _ h=>zec r hp h hk
 unfold pop at h;split at h
 ·rename_i ho;refine .inl ?_;have:=zsX r hp h hk;unfold aop;rw[ho];exact this
 ·rename_i ho;exact .inl (zrj r ho h hk)
 ·rename_i ho;exact .inl (zrM r hp ho h hk)
 ·rename_i ho;exact .inl (zr8 r hp ho h hk)
 ·rename_i ho;exact .inl (zvm r hp ho h hk)
 ·rename_i ho;exact zrG r hp ho h hk
 ·rename_i ho;exact zub r hp ho h hk
 ·rename_i ho;exact .inl (zu4 r hp ho h hk)
 ·rename_i ho;exact .inl (zse r hp ho h hk)
 ·rename_i ho;exact .inl (zsJ r hp ho h hk)
 ·rename_i ho;exact .inl (zs7 r hp ho h hk)
 ·rename_i ho;exact zsK r hp ho h hk
 ·rename_i ho;exact zsO r hp ho h hk
 ·rename_i ho;exact .inl (zqq r hp ho h hk)
 ·rename_i ho;exact .inl (zpC r hp ho h hk)
 ·rename_i ho;split at h
  ·left;have:=zec r hp h hk;unfold aop;rw[ho];exact this
  ·exact .inl (zsz r hp ho h hk)
 ·rename_i args ts ho;left;unfold zu8 at h;split at h
  ·rename_i x t ha;split at h
   ·have:=zec r hp h hk;unfold aop;rw[ho];exact this
   ·exact zve r hp ho ha h hk
  ·cases h
 ·rename_i args ts ho;unfold zvc at h;split at h
  ·rename_i s x t t' ha;split at h
   ·rename_i htt;subst htt;exact .inl (zuD r hp ho ha h hk)
   ·exact .inr (zsS r hp ho ha h hk)
  ·cases h
 ·rename_i args ts ho;exact .inr (zun r ho h hk)
 ·rename_i ho;exact .inl (zs1 r hp ho h hk)
 ·rename_i s t x ho;split at h
  ·rcases h.1 with h1|h1
   ·exact .inr ⟨h1,znm r hp ho h.2 hk⟩
   ·exact .inl (zzv r ho h1 (znm r hp ho h.2 hk))
  ·left;have:=zec r hp h hk;unfold aop;rw[ho];exact .inl this
 ·rename_i ho;left;have:=zec r hp h hk;unfold aop;rw[ho];exact this
 ·rename_i ho;left;have:=zec r hp h hk;unfold aop;rw[ho];exact this
 ·rename_i ho;left;have:=zec r hp h hk;unfold aop;rw[ho];exact this
 ·rename_i ho;left;have:=zec r hp h hk;unfold aop;rw[ho];exact this
 ·rename_i op t x y u ho;split at h
  ·rename_i hy;exact .inr ⟨h.1,zs6 r hp ho hy h.2 hk⟩
  ·left;have:=zec r hp h hk;unfold aop;rw[ho];exact this
 ·cases h
theorem znp(r:RelP c.nt pin E0 E pf fr)(hp:PinOK c pin){d:Option Tmp}(h:ziI c d K pf)(hk:∀pf' fr' E',K pf'→RelP c.nt pin E0 E' pf' fr'→E'.H=E.H→K' fr' E'.H):zar c.nt K' d .skip fr E.H:=by
 cases d with
 |none=>exact hk _ _ _ h r rfl
 |some d=>
  obtain⟨h1,h2⟩:=h;obtain⟨c1,c2⟩:=zlg h1;simp only[zar,if_pos c1];exact hk _ _ E h2 (r.set c1 (fun w hw=>c2 (hp.h d w hw)) (GK.refl E) (fun s _ _=>.refl _) (Since.refl E) r.wf r.fresh (by show(fr.put d .skip) d=.skip;simp[FR.put]) (fun s hs=>by cases hs)) rfl
theorem zrr(r:RelP nt pin E0 E pf fr){j:Nat}{y:Option Bool}(h:ygP pf pre[j]? =some y):zeD fr pre j=some y:=by
 unfold ygP at h;split at h
 ·rename_i d hd;unfold zeD;rw[hd];simp only;have hf:=r.f d;unfold ygV at h;split at h
  ·rename_i b hb;rw[hb]at hf;obtain⟨v,h1,h2⟩:=zcl hf (by simp);cases h2;rw[h1];exact h
  ·rename_i hb;rw[hb]at hf;have hf:fr d=.skip:=hf;rw[hf];exact h
  ·cases h
 ·cases h
theorem zuQ(r:RelP c.nt pin E0 E pf fr)(hp:PinOK c pin)(h:zmC P c pre o K pf)
(hk:∀pf' fr' E',K pf'→RelP c.nt pin E0 E' pf' fr'→K' fr' E'.H):zlp P c.nt pre o K' fr E.H:=by
 unfold zmC at h;unfold zlp;split at h
 ·rename_i hg;rw[hg];rcases zjZ r hp h hk with h|h
  ·exact .inl h
  ·exact .inr h.2
 ·rename_i j b hg;rw[hg];simp only;unfold pgo at h;split at h
  ·rename_i y hy;rw[zrr r hy];simp only;split at h
   ·rename_i e;rw[if_pos e];rcases zjZ r hp h hk with h|h
    ·exact .inl h
    ·exact .inr h.2
   ·rename_i e;rw[if_neg e];exact znp r hp h fun pf' fr' E' a b _=>hk pf' fr' E' a b
  ·cases h
theorem zur(hp:PinOK c pin) :∀{l:List Oper}{E:Env}{pf:PFr}{fr:FR}{K:PFr→Prop}{K':FR→AH→Prop},RelP c.nt pin E0 E pf fr→znz P c pre l K pf→
 (∀pf' fr' E',K pf'→RelP c.nt pin E0 E' pf' fr'→K' fr' E'.H)→zeh P c.nt pre l K' fr E.H:=by
 intro l;induction l with
 |nil=>intro E pf fr K K' r h hk;exact hk _ _ _ h r
 |cons o l ih=>
  intro E pf fr K K' r h hk;rw[zp8];exact zuQ r hp h fun pf' fr' E' a b=>ih b a hk
theorem zf2{nt:Nat}{d:Option Tmp}{x:FV}{fr:FR}{H H0:AH}(he:Ext H0 H)(h:zar nt K' d x fr H):zar nt (fun fr' H'=>Ext H0 H'∧K' fr' H') d x fr H:=by
 unfold zar at h⊢;split at h
 ·split at h
  ·rename_i hd;simp only[hd,if_true];exact⟨he,h⟩
  ·cases h
 ·exact⟨he,h⟩
theorem zzQ{H:AH}(hw:WFH H)(he:zcs o.op=true)(hc:∀f args ts,o.op≠.call ⟨.value f,args,ts⟩)(h:aop P nt o K' fr H):aop P nt o (fun fr' H'=>Ext H H'∧K' fr' H') fr H:=by
 have hplain:∀{o:Oper},zaB P nt o K' fr H→zaB P nt o (fun fr' H'=>Ext H H'∧K' fr' H') fr H:=by
  intro o h;unfold zaB at h⊢;split at h
  ·split at h
   ·rename_i hm;split at h
    ·rename_i hv;exact zf2 (znQ hw hm) h
    ·cases h
   ·cases h
  ·cases h
 unfold aop at h⊢;split at h
 ·rename_i ho;split at h
  ·rename_i v hv;exact zf2 (.refl H) h
  ·cases h
 ·split at h
  ·exact zf2 (.refl H) h
  ·cases h
 ·split at h
  ·exact zf2 (.refl H) h
  ·cases h
 ·refine h.imp (fun h=>?_) fun⟨u,l,es,cs,k,j,e,g,r,a1,a2,a3,a4,a5,a6,a7⟩=>⟨u,l,es,cs,k,j,e,g,r,a1,a2,a3,a4,a5,a6,zf2 ⟨Nat.le_succ _,fun id k hk=>?_⟩ a7⟩
  ·split at h
   ·exact zf2 (.refl H) h
   ·cases h
  ·have:=hw id k hk;simp only[AH.push];rw[if_neg (by omega)];exact hk
 ·split at h
  ·split at h
   ·rename_i hc';rw[if_pos hc'];exact⟨.refl H,h⟩
   ·cases h
  ·cases h
 ·split at h
  ·split at h
   ·rename_i hc';rw[if_pos hc'];exact⟨.refl H,h⟩
   ·cases h
  ·cases h
 ·split at h
  ·rename_i hm;split at h
   ·split at h
    ·rename_i hc';rw[if_pos hc'];split at h
     ·rename_i hf;exact⟨znQ hw hm,h⟩
     ·cases h
    ·cases h
   ·cases h
  ·cases h
 ·rename_i ho;rw[ho]at he;cases he
 ·split at h
  ·split at h
   ·rename_i hv;exact zf2 (.refl H) h
   ·cases h
  ·split at h
   ·rename_i hv;exact zf2 (.refl H) h
   ·cases h
  ·cases h
 ·split at h
  ·split at h
   ·split at h
    ·rename_i hc';rw[if_pos hc'];refine zf2 ⟨Nat.le_succ _,fun id k hk=>?_⟩ h;have:=hw id k hk;simp only[AH.push];rw[if_neg (by omega)];exact hk
    ·cases h
   ·cases h
  ·cases h
 ·rename_i ho;rw[ho]at he;cases he
 ·rename_i ho;rw[ho]at he;cases he
 ·rename_i f args ts ho;exact absurd ho (hc f args _)
 ·split at h
  ·exact zf2 (.refl H) h
  ·exact hplain h
 ·split at h
  ·exact zf2 (.refl H) h
  ·exact hplain h
 ·exact h.imp hplain fun⟨h1,l,ns,h2,h3⟩=>⟨h1,l,ns,h2,zf2 (.refl H) h3⟩
 ·exact hplain h
end
end Go.Pm
