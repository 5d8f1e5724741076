import Derived.Test.YtplemekcclpaoaaGreatDoorAmK
import Derived.Orders
namespace Go.Am
set_option linter.unusedVariables false
set_option linter.unusedSimpArgs false
def Ext(H H':AH):Prop:=H.n≤H'.n∧∀id k,H.b id=some k→H'.b id=some k
theorem Ext.refl(H:AH):Ext H H:=⟨Nat.le_refl _,fun _ _ h=>h⟩
theorem Ext.trans{a b c:AH}(h:Ext a b)(h':Ext b c):Ext a c:=⟨Nat.le_trans h.1 h'.1,fun id k hk=>h'.2 id k (h.2 id k hk)⟩
section
variable {P:Program}
variable{H:AH}{K K2:FR→AH→Prop}{fr:FR}{nt:Nat}{o:Oper}{pre:List (Option Tmp)}
theorem zfP(hk:∀fr H,K fr H→K2 fr H){d:Option Tmp}{x:FV}(h:zar nt K d x fr H):zar nt K2 d x fr H:=by
 unfold zar at h⊢;split at h
 ·split at h
  ·rename_i hd;rw[if_pos hd];exact hk _ _ h
  ·cases h
 ·exact hk _ _ h
theorem zkb(hk:∀fr H,K fr H→K2 fr H)(h:zaB P nt o K fr H):zaB P nt o K2 fr H:=by
 unfold zaB at h⊢;split at h
 ·split at h
  ·split at h
   ·exact zfP hk h
   ·cases h
  ·cases h
 ·cases h
theorem zp0(hk:∀fr H,K fr H→K2 fr H){t:TypeId}{x i:Operand}{d:Option Tmp}:zyh P nt t x i d K fr H→zyh P nt t x i d K2 fr H:=
 fun⟨u,l,es,cs,k,j,e,g,r,a1,a2,a3,a4,a5,a6,a7⟩=>⟨u,l,es,cs,k,j,e,g,r,a1,a2,a3,a4,a5,a6,zfP hk a7⟩
theorem zht(hk:∀fr H,K fr H→K2 fr H)(h:aop P nt o K fr H):aop P nt o K2 fr H:=by
 unfold aop at h⊢;split at h
 all_goals
  repeat' first
   |exact zfP hk h
   |exact hk _ _ h
   |exact zkb hk h
   |exact h.imp (zkb hk) fun⟨h1,l,ns,h2,h3⟩=>⟨h1,l,ns,h2,zfP hk h3⟩
   |exact h.imp (zfP hk) (zp0 hk)
   |exact h.imp (fun x=>x) (zp0 hk)
   |exact h.mono (fun _ _ hh=>zfP hk hh)
   |exact h.elim
   |rw[if_pos (by assumption)]
   |rw[if_neg (by assumption)]
   |split at h
theorem znZ(hk:∀fr H,K fr H→K2 fr H)(h:gop P nt pre o K fr H):gop P nt pre o K2 fr H:=by
 unfold gop at h⊢;split at h
 ·exact zht hk h
 ·split at h
  ·split at h
   ·rename_i e;rw[if_pos e];exact zht hk h
   ·rename_i e;rw[if_neg e];exact zfP hk h
  ·cases h
theorem zsC(hk:∀fr H,K fr H→K2 fr H)(h:ahp P nt o K fr H):ahp P nt o K2 fr H:=by
 unfold ahp at h⊢;split at h
 case h_3=>
  refine⟨h.1,?_⟩;have h:=h.2;split at h
  ·exact fun b=>hk _ _ (h b)
  ·exact hk _ _ h
  ·exact h.elim
 case h_4=>
  split at h
  ·exact⟨h.1,h.2.1,h.2.2.1,hk _ _ h.2.2.2⟩
  ·exact h.elim
 case h_5=>
  repeat' first
   |exact h.imp (fun h=>⟨h.1,hk _ _ h.2⟩) fun⟨h1,sv,v,H2,h2,h3,h4⟩=>⟨h1,sv,v,H2,h2,h3,hk _ _ h4⟩
   |exact h.elim
   |split at h
 case h_6=>
  repeat' first
   |(obtain⟨h1,cs,h2,h3⟩:=h;exact⟨h1,cs,h2,hk _ _ h3⟩)
   |exact h.elim
   |split at h
 case h_7=>
  obtain⟨ts,fr',H',h1,h2⟩:=h;exact⟨ts,fr',H',h1,zkb hk h2⟩
 case h_8=>
  obtain⟨s,cells,h1,h2⟩:=h;exact⟨s,cells,h1,hk _ _ h2⟩
 case h_9=>
  refine⟨h.1,?_⟩;have h:=h.2;split at h
  ·obtain⟨ns,h1,h2⟩:=h;exact⟨ns,h1,hk _ _ h2⟩
  ·exact h.elim
 all_goals
  repeat' first
   |exact⟨h.1,h.2.1,hk _ _ h.2.2⟩
   |exact h.elim
   |split at h
theorem zv9(hk:∀fr H,K fr H→K2 fr H)(h:zlp P nt pre o K fr H):zlp P nt pre o K2 fr H:=by
 unfold zlp at h⊢;split at h
 ·exact h.imp (zht hk) (zsC hk)
 ·split at h
  ·split at h
   ·rename_i e;rw[if_pos e];exact h.imp (zht hk) (zsC hk)
   ·rename_i e;rw[if_neg e];exact zfP hk h
  ·cases h
theorem zv7 :∀{l:List Oper}{K K2:FR→AH→Prop}(_:∀fr H,K fr H→K2 fr H) {fr:FR}{H:AH},zeh P nt pre l K fr H→zeh P nt pre l K2 fr H:=by
 intro l;induction l with
 |nil=>intro K K2 hk fr H h;exact hk _ _ h
 |cons o l ih=>intro K K2 hk fr H h;exact zv9 (fun _ _ h'=>ih hk h') h
end
def osl:Operand→List Nat
 | .tmp t=>[t]
 |_=>[]
def znB(o:Op):List Nat:=o.operands.toList.flatMap osl
def gsl(pre:List (Option Tmp))(o:Oper):List Nat:=
 match o.guard with
 |some (j,_)=>match pre[j]? with
  |some (some d)=>[d]
  |_=>[]
 |none=>[]
def sls(pre:List (Option Tmp))(o:Oper):List Nat:=znB o.op++gsl pre o
def zou:Op→Bool
 | .call ⟨.value _,_,_⟩| .call ⟨.builtin .copy,_,_⟩=>true
 |_=>false
def zxC:Op→Bool
 | .makeSlice .. =>true
 |_=>false
def zeA:Op→Bool
 | .call ⟨.builtin .append,_,_⟩=>true
 |_=>false
def zfg:Op→Bool
 | .store .. =>true
 |_=>false
def zjy:Op→Bool
 | .load .. =>true
 |_=>false
def zjB:Op→Option Nat
 | .load _ (.tmp t)=>some t
 | .store _ (.tmp t) _=>some t
 |_=>none
structure DE where
 i:Nat
 sl:List Nat
 rg:List Nat
 mr:Option Nat
 ls:Bool
 ext:Bool
 wr:Bool
def DE.ex(e:DE):Bool:=e.ext&& !e.wr
def zyD:FV→Bool
 | .loc _| .lp .. | .skip=>true
 |_=>false
def okS(rg:List Nat)(ls:Bool)(t:Nat):FV→Bool
 | .v (.tuple a)=> !a.toList.isEmpty
 | .v _=>true
 | .skip=>true
 | .loc _=>rg.contains t
 | .lp s _=>rg.contains s
 | .ls .. =>ls
def okR(fr:FR):Option Nat→Bool
 |some t=>zyD (fr t)
 |none=>true
def okL(rg:List Nat)(ls:Bool)(fr:FR):List Nat→Bool
 |[]=>true
 |t::r=>okS rg ls t (fr t)&&okL rg ls fr r
def zdH(e:DE)(fr:FR):Bool:=okL e.rg e.ls fr e.sl&&okR fr e.mr
def zxo(pre:List (Option Tmp))(e:DE)(o:Oper):Bool:=
 (sls pre o).all (e.sl.contains ·)&&(!e.ls||e.ext||zeA o.op)&&(!(zou o.op||zxC o.op)||e.ext)&&
 (!(zjy o.op||zfg o.op)||e.rg.isEmpty||(e.mr.isSome&&e.mr==zjB o.op))&&(e.mr.toList.all (e.sl.contains ·))
def zsy(e:DE)(o:Oper):Bool:= !e.ext&& !zeA o.op&& !zfg o.op
def zr6(xs ys:List Nat):Bool:=xs.all fun x=> !ys.contains x
def zkR(x:DE)(p:Oper)(y:DE)(q:Oper):Bool:=
 zsy x p&&zr6 p.dst.toList (y.sl++y.rg++q.dst.toList)&&zr6 q.dst.toList (x.sl++x.rg)&&
 (!(zjy p.op&&x.rg.isEmpty)||(!zeA q.op&&(!zfg q.op|| !y.rg.isEmpty||y.ext)))&&
 (!zfg q.op||zr6 y.rg (x.sl++x.rg))&&(!(zjy p.op&&x.rg.isEmpty)|| !y.wr)
def dop(P:Program)(nt:Nat)(pre:List (Option Tmp))(e:DE)(o:Oper)(K:FR→AH→Prop)(fr:FR)(H:AH):Prop:=
 zdH e fr=true∧gop P nt pre o (fun fr' H'=>(e.ex=true→Ext H H')∧K fr' H') fr H
def dops(P:Program)(nt:Nat)(pre:List (Option Tmp)):List (DE×Oper)→(FR→AH→Prop)→FR→AH→Prop
 |[],K,fr,H=>K fr H
 |(e,o)::r,K,fr,H=>dop P nt pre e o (dops P nt pre r K) fr H
inductive Upd where
 |no
 |put (d:Nat) (x:FV)
 |loc (d:Nat) (cells:List Value)
def Upd.app:Upd→FR→FR
 | .no,fr=>fr
 | .put d x,fr=>fr.put d x
 | .loc d cs,fr=>fr.putLoc d cs
def Upd.dst:Upd→List Nat
 | .no=>[]
 | .put d _| .loc d _=>[d]
def Upd.of:Option Tmp→FV→Upd
 |some d,x=>.put d x
 |none,_=>.no
structure Sim (e:DE) (f g:FR):Prop where
 s:∀t,t∈e.sl→f t=g t
 r:∀s,s∈e.rg→∀cs,f s=.loc cs↔g s=.loc cs
section
variable {P:Program}{nt:Nat}{pre:List (Option Tmp)}{e:DE}{f g fr:FR}{H:AH}{U:Upd}
variable{ls:Bool}{rg:List Nat}{x:Operand}
theorem zjs :∀{l:List Nat},okL rg ls fr l=true→∀t,t∈l→okS rg ls t (fr t)=true:=by
 intro l;induction l with
 |nil=>intro _ t h;cases h
 |cons a l ih=>
  intro h t ht;simp only[okL,Bool.and_eq_true]at h;rcases List.mem_cons.1 ht with rfl|ht
  ·exact h.1
  ·exact ih h.2 t ht
theorem zdo(h:Sim e f g)(hx:∀t,t∈osl x→t∈e.sl):rdv f x=rdv g x:=by
 cases x with
 |tmp t=>simp only[rdv,h.s t (hx t (by simp[osl]))]
 |_=>rfl
theorem zow{t s o:Nat}(h:okS rg ls t (.lp s o)=true):s∈rg:=by simpa[okS]using h
theorem ztx{t:Nat}{cs:List Value}(h:okS rg ls t (.loc cs)=true):t∈rg:=by simpa[okS]using h
theorem zeW(h:Sim e f g)(hg:zdH e g=true)(hx:∀t,t∈osl x→t∈e.sl):rda f x=rda g x:=by
 cases x with
 |tmp t=>
  have ht:=hx t (by simp[osl]);simp only[rda,h.s t ht];cases hgt:g t with
  |lp s o=>
   have hs:s∈e.rg:=by
    simp only[zdH,Bool.and_eq_true]at hg;have:=zjs hg.1 t ht;rw[hgt]at this;exact zow this
   simp only;cases hgs:g s with
   |loc cs=>rw[(h.r s hs cs).2 hgs]
   |_=>
    cases hfs:f s with
    |loc cs=>rw[(h.r s hs cs).1 hfs]at hgs;cases hgs
    |_=>rfl
  |_=>rfl
 |const c=>simp only[rda];rw[zdo h hx]
 |func c=>simp only[rda];rw[zdo h hx]
 |global c=>simp only[rda];rw[zdo h hx]
theorem ziX(hg:zdH e g=true)(hx:∀t,t∈osl x→t∈e.sl){s o:Nat}(h:rda g x=some (.lp s o)):s∈e.rg∧∃cs,g s=.loc cs:=by
 simp only[zdH,Bool.and_eq_true]at hg;cases x with
 |tmp t=>
  have hk:=zjs hg.1 t (hx t (by simp[osl]));simp only[rda]at h;cases hgt:g t with
  |lp s' o'=>
   rw[hgt]at h hk;simp only at h;cases hgs:g s' with
   |loc cs=>rw[hgs]at h;cases h;exact⟨zow hk,cs,hgs⟩
   |_=>rw[hgs]at h;cases h
  |loc cs=>rw[hgt]at h hk;cases h;exact⟨ztx hk,cs,hgt⟩
  |v x=>rw[hgt]at h;cases h
  |skip=>rw[hgt]at h;cases h
  |ls=>rw[hgt]at h;cases h
 |const c=>simp only[rda,rdv]at h;split at h<;>cases h
 |func c=>simp only[rda,rdv]at h;cases h
 |global c=>simp only[rda,rdv]at h;cases h
end
section
variable {P:Program}{nt:Nat}{pre:List (Option Tmp)}{e:DE}{f g fr:FR}{H:AH}{U:Upd}
variable{o:Oper}{x:FV}
theorem zkQ{dd:Nat}(hd:dd∉U.dst)(hx:∀s o,x=.lp s o→s∉U.dst):(U.app fr).put dd x=U.app (fr.put dd x):=by
 cases U with
 |no=>rfl
 |put d y=>
  funext t;simp only[Upd.dst,List.mem_singleton]at hd;simp only[Upd.app,FR.put];by_cases h1:t=dd
  ·subst h1;simp[hd]
  ·simp[h1]
 |loc d cs=>
  funext t;simp only[Upd.dst,List.mem_singleton]at hd hx;simp only[Upd.app,FR.put,FR.putLoc];by_cases h1:t=dd
  ·subst h1;simp only[if_true,if_neg hd];cases x with
   |lp s o=>simp only[zex];rw[if_neg (hx s o rfl)]
   |_=>rfl
  ·simp[h1]
theorem zt8(a b:Nat)(v:FV):zex a (zex b v)=zex b (zex a v):=by
 cases v with
 |lp s o=>
  have k:∀c,zex c (.lp s o)=if s=c then jv else .lp s o:=fun _=>rfl
  by_cases h1:s=a<;>by_cases h2:s=b
  ·rw[k b,if_pos h2,k a,if_pos h1];rfl
  ·rw[k b,if_neg h2,k a,if_pos h1];rfl
  ·rw[k b,if_pos h2,k a,if_neg h1,k b,if_pos h2];rfl
  ·rw[k b,if_neg h2,k a,if_neg h1,k b,if_neg h2]
 |_=>rfl
theorem zoV{dd:Nat}{cs:List Value}(hd:dd∉U.dst)(hU:∀d' s o,U=.put d' (.lp s o)→s≠dd):(U.app fr).putLoc dd cs=U.app (fr.putLoc dd cs):=by
 cases U with
 |no=>rfl
 |put d y=>
  funext t;simp only[Upd.dst,List.mem_singleton]at hd;simp only[Upd.app,FR.put,FR.putLoc];by_cases h1:t=dd
  ·subst h1;simp[hd]
  ·by_cases h2:t=d
   ·subst h2;simp only[h1,if_true,if_false];cases y with
    |lp s o=>simp only[zex];rw[if_neg (hU _ s o rfl)]
    |_=>rfl
   ·simp[h1,h2]
 |loc d c2=>
  funext t;simp only[Upd.dst,List.mem_singleton]at hd;simp only[Upd.app,FR.putLoc];by_cases h1:t=dd
  ·subst h1;simp[hd,zex]
  ·by_cases h2:t=d
   ·subst h2;simp[h1,zex]
   ·simp only[h1,h2,if_false];exact zt8 ..
theorem zph{s:Nat}(h:s∉U.dst)(cs:List Value):U.app fr s=.loc cs↔fr s=.loc cs:=by
 cases U with
 |no=>exact Iff.rfl
 |put d y=>
  simp only[Upd.dst,List.mem_singleton]at h;simp[Upd.app,FR.put,h]
 |loc d c2=>
  simp only[Upd.dst,List.mem_singleton]at h;simp only[Upd.app,FR.putLoc,if_neg h];cases fr s with
  |lp s' o'=>simp only[zex];split<;>simp[jv]
  |_=>simp[zex]
theorem zzB(hs:∀t,t∈e.sl→t∉U.dst)(hr:∀s,s∈e.rg→s∉U.dst)(hc:zdH e (U.app fr)=true):Sim e (U.app fr) fr:=by
 refine⟨fun t ht=>?_,fun s hs cs=>zph (hr s hs) cs⟩;simp only[zdH,Bool.and_eq_true]at hc;have hk:=zjs hc.1 t ht;have hd:=hs t ht;cases U with
 |no=>rfl
 |put d y=>
  simp only[Upd.dst,List.mem_singleton]at hd;simp[Upd.app,FR.put,hd]
 |loc d c2=>
  simp only[Upd.dst,List.mem_singleton]at hd;simp only[Upd.app,FR.putLoc,if_neg hd]at hk⊢;cases hf:fr t with
  |lp s o=>
   rw[hf]at hk;simp only[zex]at hk⊢;split
   ·rename_i h;rw[if_pos h]at hk;simp[jv,okS]at hk
   ·rfl
  |_=>rfl
theorem zqi(h:Sim e f g)(hr:∀t,e.mr=some t→t∈e.sl):zdH e f=zdH e g:=by
 have h1:∀l:List Nat,(∀t,t∈l→t∈e.sl)→okL e.rg e.ls f l=okL e.rg e.ls g l:=by
  intro l;induction l with
  |nil=>intro _;rfl
  |cons a l ih=>intro hl;simp only[okL];rw[h.s a (hl a (List.mem_cons_self ..)),ih fun t ht=>hl t (List.mem_cons_of_mem _ ht)]
 simp only[zdH];rw[h1 _ fun t ht=>ht];congr 1;cases hm:e.mr with
 |none=>rfl
 |some t=>simp only[okR];rw[h.s t (hr t hm)]
structure Pst (e:DE) (o:Oper) (fr:FR) (H:AH) (f:FR) (h:AH):Prop where
 s:∀t,t∉o.dst.toList→(zfg o.op=true→t∉e.rg)→(∀l es cs,fr t≠.ls l es cs)→(∀d k,d∈o.dst.toList→fr t≠.lp d k)→f t=fr t
 r:∀s,s∉o.dst.toList→(zfg o.op=true→s∉e.rg)→∀cs,f s=.loc cs↔fr s=.loc cs
 h:e.ext=false→zeA o.op=false→(zfg o.op=true→e.rg≠[])→h=H
theorem zdk{K R:FR→AH→Prop}{d:Option Tmp}(h:zar nt K d x (U.app fr) H)(hd:∀t,t∈d.toList→t∉U.dst)(hx:∀s o,x=.lp s o→s∉U.dst)
(hP:R ((Upd.of d x).app fr) H):zar nt (fun f h=>K (U.app f) h∧R f h) d x fr H:=by
 cases d with
 |none=>exact⟨h,hP⟩
 |some d=>
  simp only[zar]at h⊢;split at h
  ·rename_i hlt;rw[if_pos hlt];exact⟨by rw[←zkQ (hd d (by simp)) hx];exact h,hP⟩
  ·cases h
theorem zhc :Pst e o fr H ((Upd.of o.dst x).app fr) H:=by
 cases hd:o.dst with
 |none=>exact⟨fun _ _ _ _ _=>rfl,fun _ _ _ _=>Iff.rfl,fun _ _ _=>rfl⟩
 |some d=>
  refine⟨fun t h1 _ _ _=>?_,fun s h1 _ cs=>?_,fun _ _ _=>rfl⟩
  ·rw[hd]at h1;simp at h1;simp[Upd.of,Upd.app,FR.put,h1]
  ·rw[hd]at h1;simp at h1;simp[Upd.of,Upd.app,FR.put,h1]
theorem ztJ{d:Nat}{cs:List Value}(hd:o.dst=some d):Pst e o fr H (fr.putLoc d cs) H:=by
 refine⟨fun t h1 _ _ h4=>?_,fun s h1 _ c2=>?_,fun _ _ _=>rfl⟩
 ·rw[hd]at h1;simp at h1;simp only[FR.putLoc,if_neg h1];cases hf:fr t with
  |lp s k=>
   simp only[zex];rw[if_neg];intro e;subst e;exact h4 _ k (by simp[hd]) hf
  |_=>rfl
 ·rw[hd]at h1;simp at h1;simp only[FR.putLoc,if_neg h1];cases hf:fr s with
  |lp s k=>simp only[zex];split<;>simp[jv]
  |_=>simp[zex]
theorem ztN{x:Operand}(hx:∀t,t∈osl x→t∉U.dst∧U.app fr t=fr t):mat (U.app fr) H x=(mat fr H x).map fun r=>(r.1,U.app r.2.1,r.2.2):=by
 cases x with
 |tmp t=>
  obtain⟨h1,h2⟩:=hx t (by simp[osl]);simp only[mat,h2];cases hf:fr t with
  |v y=>rfl
  |ls l es cs=>simp only[Option.map_some];rw[zkQ h1 (by intro s o hh;cases hh)]
  |_=>rfl
 |const c=>simp only[mat,rdv];split<;>rfl
 |func c=>rfl
 |global c=>rfl
theorem zfI{x:Operand}{v:Value}{f:FR}{h:AH}(hm:mat fr H x=some (v,f,h)):(∀t,(∀l es cs,fr t≠.ls l es cs)→f t=fr t)∧(∀t,f t=fr t∨((∃l es cs,fr t=.ls l es cs)∧∃y,f t=.v y))∧
 ((∀t,t∈osl x→∀l es cs,fr t≠.ls l es cs)→f=fr∧h=H∧rdv fr x=some v):=by
 have key:∀y:Operand,mat fr H y=(rdv fr y).map (fun v=>(v,fr,H))→mat fr H y=some (v,f,h)→f=fr∧h=H∧rdv fr y=some v:=by
  intro y e hm;rw[e]at hm;cases hr:rdv fr y with
  |none=>rw[hr]at hm;cases hm
  |some w=>rw[hr]at hm;cases hm;exact⟨rfl,rfl,rfl⟩
 cases x with
 |tmp t=>
  simp only[mat]at hm;cases hf:fr t with
  |v y=>
   rw[hf]at hm;cases hm;exact⟨fun _ _=>rfl,fun _=>.inl rfl,fun _=>⟨rfl,rfl,by simp[rdv,hf]⟩⟩
  |ls l es cs=>
   rw[hf]at hm;cases hm;refine⟨fun u hu=>?_,fun u=>?_,fun hn=>absurd hf (hn t (by simp[osl]) l es cs)⟩
   ·have:u≠t:=by rintro rfl;exact hu l es cs hf
    simp[FR.put,this]
   ·by_cases hut:u=t
    ·subst hut;exact .inr ⟨⟨l,es,cs,hf⟩,_,zbD ..⟩
    ·exact .inl (by simp[FR.put,hut])
  |skip=>rw[hf]at hm;cases hm
  |loc cs=>rw[hf]at hm;cases hm
  |lp s k=>rw[hf]at hm;cases hm
 |const c=>
  obtain⟨rfl,rfl,h3⟩:=key (.const c) rfl hm;exact⟨fun _ _=>rfl,fun _=>.inl rfl,fun _=>⟨rfl,rfl,h3⟩⟩
 |func c=>
  obtain⟨rfl,rfl,h3⟩:=key (.func c) rfl hm;exact⟨fun _ _=>rfl,fun _=>.inl rfl,fun _=>⟨rfl,rfl,h3⟩⟩
 |global c=>
  obtain⟨rfl,rfl,h3⟩:=key (.global c) rfl hm;exact⟨fun _ _=>rfl,fun _=>.inl rfl,fun _=>⟨rfl,rfl,h3⟩⟩
theorem zxW:∀{xs:List Operand}{fr:FR}{H:AH}(_:∀t,t∈xs.flatMap osl→t∉U.dst∧U.app fr t=fr t),zaG (U.app fr) H xs=(zaG fr H xs).map fun r=>(r.1,U.app r.2.1,r.2.2):=by
 intro xs;induction xs with
 |nil=>intro fr H _;rfl
 |cons x xs ih=>
  intro fr H h;have hx:∀t,t∈osl x→t∉U.dst∧U.app fr t=fr t:=fun t ht=>h t (by simp only[List.flatMap_cons,List.mem_append];exact .inl ht)
  simp only[zaG,ztN hx];cases hm:mat fr H x with
  |none=>rfl
  |some r=>
   obtain⟨v,f,h'⟩:=r;simp only[Option.map_some];have hf:=zfI hm
   have hxs:∀t,t∈xs.flatMap osl→t∉U.dst∧U.app f t=f t:=by
    intro t ht;have hu:=h t (by simp only[List.flatMap_cons,List.mem_append];exact .inr ht);refine⟨hu.1,?_⟩;rcases hf.2.1 t with e|⟨_,y,e⟩
    ·
     have h1:=hu.2;cases U with
     |no=>rfl
     |put d z=>simp only[Upd.dst,List.mem_singleton]at hu;simp[Upd.app,FR.put,hu.1]
     |loc d z=>
      simp only[Upd.dst,List.mem_singleton]at hu;simp only[Upd.app,FR.putLoc,if_neg hu.1]at h1⊢;rw[e];exact h1
    ·cases U with
     |no=>rfl
     |put d z=>simp only[Upd.dst,List.mem_singleton]at hu;simp[Upd.app,FR.put,hu.1]
     |loc d z=>
      simp only[Upd.dst,List.mem_singleton]at hu;simp only[Upd.app,FR.putLoc,if_neg hu.1];rw[e];rfl
   rw[ih hxs];cases zaG f h' xs<;>rfl
theorem zhK:∀{xs:List Operand}{vs:List Value}{fr f:FR}{H h:AH}(_:zaG fr H xs=some (vs,f,h)),(∀t,(∀l es cs,fr t≠.ls l es cs)→f t=fr t)∧(∀t,f t=fr t∨((∃l es cs,fr t=.ls l es cs)∧∃y,f t=.v y))∧
 ((∀t,t∈xs.flatMap osl→∀l es cs,fr t≠.ls l es cs)→f=fr∧h=H):=by
 intro xs;induction xs with
 |nil=>intro vs fr f H h hm;cases hm;exact⟨fun _ _=>rfl,fun _=>.inl rfl,fun _=>⟨rfl,rfl⟩⟩
 |cons x xs ih=>
  intro vs fr f H h hm;simp only[zaG]at hm;cases h1:mat fr H x with
  |none=>rw[h1]at hm;cases hm
  |some r=>
   obtain⟨v,f1,h1'⟩:=r;rw[h1]at hm;simp only at hm;cases h2:zaG f1 h1' xs with
   |none=>rw[h2]at hm;cases hm
   |some r=>
    obtain⟨vs',f2,h2'⟩:=r;rw[h2]at hm;cases hm;have m1:=zfI h1;have m2:=ih h2;refine⟨fun t ht=>?_,fun t=>?_,fun hn=>?_⟩
    ·have e1:=m1.1 t ht;rw[m2.1 t (by rw[e1];exact ht),e1]
    ·rcases m2.2.1 t with e2|⟨⟨l,es,cs,e2⟩,y,e3⟩
     ·rcases m1.2.1 t with e1|⟨a,y,e1⟩
      ·exact .inl (e2.trans e1)
      ·exact .inr ⟨a,y,e2.trans e1⟩
     ·rcases m1.2.1 t with e1|⟨a,_⟩
      ·exact .inr ⟨⟨l,es,cs,e1▸e2⟩,y,e3⟩
      ·exact .inr ⟨a,y,e3⟩
    ·obtain⟨rfl,rfl,_⟩:=m1.2.2 fun t ht=>hn t (by simp only[List.flatMap_cons,List.mem_append];exact .inl ht)
     exact m2.2.2 fun t ht=>hn t (by simp only[List.flatMap_cons,List.mem_append];exact .inr ht)
theorem zhM{f:FR}{h h':AH}(h1:∀t,(∀l es cs,fr t≠.ls l es cs)→f t=fr t)(h2:∀t,f t=fr t∨((∃l es cs,fr t=.ls l es cs)∧∃y,f t=.v y))
(h3:e.ext=false→zeA o.op=false→(zfg o.op=true→e.rg≠[])→h'=H):Pst e o fr H ((Upd.of o.dst x).app f) h':=by
 have hp:=zhc (e:=e) (fr:=f) (H:=h) (o:=o) (x:=x);refine⟨fun t a b c d=>?_,fun s a b cs=>?_,h3⟩
 ·rw[hp.s t a b (by rw[h1 t c];exact c) (by rw[h1 t c];exact d)];exact h1 t c
 ·rw[hp.r s a b cs];rcases h2 s with e|⟨⟨l,es,cc,e⟩,y,e'⟩
  ·rw[e]
  ·rw[e,e'];simp
end
set_option linter.unusedSectionVars false
structure WF (pre:List (Option Tmp)) (e:DE) (o:Oper):Prop where
 sl:∀t,t∈sls pre o→t∈e.sl
 ls:e.ls=true→e.ext=true∨zeA o.op=true
 call:zou o.op=true∨zxC o.op=true→e.ext=true
 mrs:∀t,e.mr=some t→t∈e.sl
 mr:zjy o.op=true∨zfg o.op=true→e.rg=[]∨∃t,e.mr=some t∧zjB o.op=some t
structure Apt (U:Upd) (e:DE) (o:Oper):Prop where
 sl:∀t,t∈e.sl→t∉U.dst
 rg:∀s,s∈e.rg→s∉U.dst
 ds:∀t,t∈o.dst.toList→t∉U.dst
 lp:∀d s k,U=.put d (.lp s k)→s∉o.dst.toList
theorem zD1{pre:List (Option Tmp)}{e:DE}{o:Oper}(h:zxo pre e o=true):WF pre e o:=by
 simp only[zxo,Bool.and_eq_true]at h;obtain⟨⟨⟨⟨h1,h2⟩,h3⟩,h4⟩,h5⟩:=h;refine⟨fun t ht=>?_,fun hl=>?_,fun hc=>?_,fun t ht=>by simpa[ht]using h5,fun hm=>?_⟩
 ·rw[List.all_eq_true]at h1;simpa using h1 t ht
 ·simpa[hl]using h2
 ·rcases hc with hc|hc<;>simpa[hc]using h3
 ·have:(e.rg.isEmpty||(e.mr.isSome&&e.mr==zjB o.op))=true:=by
   rcases hm with hm|hm<;>simpa[hm]using h4
  simp only[Bool.or_eq_true,Bool.and_eq_true]at this;rcases this with h|⟨h5,h6⟩
  ·left;simpa using h
  ·right;obtain⟨t,ht⟩:=Option.isSome_iff_exists.1 h5;exact⟨t,ht,by rw[ht]at h6;exact(beq_iff_eq.1 h6).symm⟩
section
variable {P:Program}{nt:Nat}{pre:List (Option Tmp)}{e:DE}{o:Oper}{f g fr:FR}{H:AH}{U:Upd}{K:FR→AH→Prop}
variable{t:TypeId}{x:Operand}{xs:List Operand}
theorem WF.of(hW:WF pre e o)(hx:x∈o.op.operands.toList):∀t,t∈osl x→t∈e.sl:=
 fun t ht=>hW.sl t (List.mem_append_left _ (List.mem_flatMap.2 ⟨x,hx,ht⟩))
theorem WF.ofL(hW:WF pre e o)(hx:∀x,x∈xs→x∈o.op.operands.toList):∀t,t∈xs.flatMap osl→t∈e.sl:=fun t ht=>by
 obtain⟨x,h1,h2⟩:=List.mem_flatMap.1 ht;exact hW.of (hx x h1) t h2
theorem zl2{op:Op}(h:zaJ op=some xs):∀x,x∈xs→x∈op.operands.toList:=by
 cases op<;>simp only[zaJ,Option.some.injEq,reduceCtorEq]at h<;>try (subst h;simp[Op.operands])
 ·rename_i c;obtain⟨callee,args,ts⟩:=c;cases callee with
  |builtin b=>cases b<;>simp only[Option.some.injEq,reduceCtorEq]at h<;>(subst h;intro x hx;simp[Op.operands,Call.operands];simpa using hx)
  |_=>simp at h
theorem zhH(hW:WF pre e o)(hc:zdH e fr=true)(h1:e.ext=false)(h2:zeA o.op=false):∀t,t∈e.sl→∀l es cs,fr t≠.ls l es cs:=by
 intro t ht l es cs hf;simp only[zdH,Bool.and_eq_true]at hc;have hk:=zjs hc.1 t ht;rw[hf]at hk;rcases hW.ls hk with h|h
 ·rw[h1]at h;cases h
 ·rw[h2]at h;cases h
variable (hA:Apt U e o) (hW:WF pre e o) (hS:Sim e (U.app fr) fr) (hc:zdH e fr=true)
include hA hW hS hc
theorem zxx{a:Operand}(ho:o.op=.load t a)(h:aop P nt o K (U.app fr) H):aop P nt o (fun f h=>K (U.app f) h∧Pst e o fr H f h) fr H:=by
 have hx:∀t,t∈osl a→t∈e.sl:=hW.of (by simp[ho,Op.operands])
 have e1:zcq (U.app fr) H a=zcq fr H a:=by
  unfold zcq;rw[zeW hS hc hx];cases hr:rda fr a with
  |none=>rfl
  |some v=>
   cases v with
   |lp s k=>
    obtain⟨hs,cs,hcs⟩:=ziX hc hx hr;simp only;rw[hcs,(hS.r s hs cs).2 hcs]
   |v x=>
    cases x<;>try rfl
    rename_i p;cases p with
    |none=>rfl
    |some p=>obtain⟨i,k,sp⟩:=p;cases sp<;>rfl
   |_=>rfl
 simp only[aop,ho,e1]at h⊢;split at h
 ·rename_i v hv;exact zdk h hA.ds (fun s k hh=>by cases hh) zhc
 ·cases h
omit hA hS in
theorem zsn{s k:Nat}(h:zcV P fr o.op=some (.lp s k)):s∈e.rg:=by
 cases ho:o.op<;>rw[ho]at h<;>simp only[zcV,reduceCtorEq]at h
 ·rename_i x;have hx:∀t,t∈osl x→t∈e.sl:=hW.of (by simp[ho,Op.operands]);split at h
  ·cases h
  ·rename_i hr;cases h;exact(ziX hc hx hr).1
  ·cases h
 ·rename_i t x f;have hx:∀t,t∈osl x→t∈e.sl:=hW.of (by simp[ho,Op.operands]);split at h
  ·rename_i hr;cases h;exact(ziX hc hx hr).1
  ·cases h
  ·cases h
 ·rename_i t x i;have hx:∀t,t∈osl x→t∈e.sl:=hW.of (by simp[ho,Op.operands])
  repeat' split at h
  all_goals first
   |(cases h;done)
   |(cases h;exact(ziX hc hx (by assumption)).1)
omit hA in
theorem zyf:zcV P (U.app fr) o.op=zcV P fr o.op:=by
 cases ho:o.op<;>simp only[zcV]
 ·rename_i x;rw[zeW hS hc (hW.of (by simp[ho,Op.operands]))]
 ·rename_i t x f;rw[zeW hS hc (hW.of (by simp[ho,Op.operands]))]
 ·rename_i t x i;rw[zeW hS hc (hW.of (by simp[ho,Op.operands])),zdo hS (hW.of (by simp[ho,Op.operands]))]
theorem znJ(h:match zcV P (U.app fr) o.op with|some x=>zar nt K o.dst x (U.app fr) H|none=>False):
 match zcV P fr o.op with|some x=>zar nt (fun f h=>K (U.app f) h∧Pst e o fr H f h) o.dst x fr H|none=>False:=by
 rw[zyf hW hS hc]at h;cases hv:zcV P fr o.op with
 |none=>rw[hv]at h;cases h
 |some y=>
  rw[hv]at h;exact zdk h hA.ds (fun s k hh=>hA.rg s (zsn hW hc (by rw[hv,hh]))) zhc
theorem zwT(ho:o.op=.alloc t)(h:aop P nt o K (U.app fr) H):aop P nt o (fun f h=>K (U.app f) h∧Pst e o fr H f h) fr H:=by
 simp only[aop,ho]at h⊢;split at h
 ·rename_i z d hz hd;split at h
  ·rename_i hcd;rw[if_pos hcd];refine⟨?_,ztJ hd⟩;rw[←zoV (hA.ds d (by simp[hd])) (fun d' s k hu hs=>hA.lp d' s k hu (by simp[hd,hs]))];exact h
  ·cases h
 ·cases h
theorem zzZ(ho:o.op=.box t x)(h:aop P nt o K (U.app fr) H):aop P nt o (fun f h=>K (U.app f) h∧Pst e o fr H f h) fr H:=by
 simp only[aop,ho,zdo hS (hW.of (x:=x) (by simp[ho,Op.operands]))]at h⊢;split at h
 ·rename_i z v d hz hv hd;split at h
  ·rename_i hcd;rw[if_pos hcd];refine⟨?_,ztJ hd⟩;rw[←zoV (hA.ds d (by simp[hd])) (fun d' s k hu hs=>hA.lp d' s k hu (by simp[hd,hs]))];exact h
  ·cases h
 ·cases h
theorem znu(hx:∀x,x∈xs→x∈o.op.operands.toList):zaG (U.app fr) H xs=(zaG fr H xs).map fun r=>(r.1,U.app r.2.1,r.2.2):=
 zxW fun t ht=>have h:=hW.ofL hx t ht;⟨hA.sl t h,hS.s t h⟩
theorem ztu(hx:x∈o.op.operands.toList):mat (U.app fr) H x=(mat fr H x).map fun r=>(r.1,U.app r.2.1,r.2.2):=
 ztN fun t ht=>have h:=hW.of hx t ht;⟨hA.sl t h,hS.s t h⟩
omit hA hS in
theorem zod{vs:List Value}{f:FR}{h:AH}(hx:∀x,x∈xs→x∈o.op.operands.toList)(hm:zaG fr H xs=some (vs,f,h)):e.ext=false→zeA o.op=false→f=fr∧h=H:=
 fun h1 h2=>(zhK hm).2.2 fun t ht=>zhH hW hc h1 h2 t (hW.ofL hx t ht)
omit hA hS in
theorem zyF{v:Value}{f:FR}{h:AH}(hx:x∈o.op.operands.toList)(hm:mat fr H x=some (v,f,h)):e.ext=false→zeA o.op=false→f=fr∧h=H:=
 fun h1 h2=>let r:=(zfI hm).2.2 fun t ht=>zhH hW hc h1 h2 t (hW.of hx t ht);⟨r.1,r.2.1⟩
theorem ziO(h:zaB P nt o K (U.app fr) H):zaB P nt o (fun f h=>K (U.app f) h∧Pst e o fr H f h) fr H:=by
 unfold zaB at h⊢;cases hp:zaJ o.op with
 |none=>rw[hp]at h;cases h
 |some xs=>
  have hm:=zl2 hp;rw[hp]at h;simp only[znu hA hW hS hc hm]at h⊢;cases hx:zaG fr H xs with
  |none=>rw[hx]at h;cases h
  |some r=>
   obtain⟨vs,f,h'⟩:=r;rw[hx]at h;simp only[Option.map_some]at h⊢;cases hv:zaP P o.op vs with
   |none=>rw[hv]at h;cases h
   |some v=>
    rw[hv]at h;exact zdk h hA.ds (fun s k hh=>by cases hh) (zhM (h:=h') (zhK hx).1 (zhK hx).2.1 fun h1 h2 _=>(zod hW hc hm hx h1 h2).2)
end
section
variable {P:Program}{nt:Nat}{pre:List (Option Tmp)}{e:DE}{o:Oper}{f g fr:FR}{H:AH}{U:Upd}{K:FR→AH→Prop}
variable (hA:Apt U e o) (hW:WF pre e o) (hS:Sim e (U.app fr) fr) (hc:zdH e fr=true)
include hA hW hS hc
variable{args:Array Operand}{t:TypeId}{ts:Array TypeId}
theorem zo9{len:Nat}{ps:Array (Nat×Operand)}(ho:o.op=.buildSlice t len ps)(h:aop P nt o K (U.app fr) H):aop P nt o (fun f h=>K (U.app f) h∧Pst e o fr H f h) fr H:=by
 have hm:∀x,x∈ps.toList.map (·.2)→x∈o.op.operands.toList:=by intro x hx;simpa[ho,Op.operands]using hx
 simp only[aop,ho,znu hA hW hS hc hm]at h⊢;cases he:zaw P t with
 |none=>rw[he]at h;cases h
 |some el=>
  cases hd:o.dst with
  |none=>rw[he,hd]at h;cases h
  |some d=>
   rw[he,hd]at h;cases hx:zaG fr H (ps.toList.map (·.2))with
   |none=>rw[hx]at h;cases h
   |some r=>
    obtain⟨vs,f,h'⟩:=r;rw[hx]at h;simp only[Option.map_some]at h⊢;cases hz:tsz P el with
    |none=>rw[hz]at h;cases h
    |some z=>
     obtain⟨gg,es,b,z⟩:=z;rw[hz]at h;simp only at h⊢;split at h
     ·rename_i hcd;rw[if_pos hcd];cases hf:zdE (fun i=>some (i*es,es)) ((ps.toList.map (·.1)).zip vs) ((List.replicate len z).flatten)with
      |none=>rw[hf]at h;cases h
      |some cs=>
       rw[hf]at h;simp only at h⊢;refine⟨?_,?_⟩
       ·rw[←zkQ (hA.ds d (by simp[hd])) (by intro s k hh;cases hh)];exact h
       ·have:=zhM (e:=e) (o:=o) (h:=h') (x:=.ls len es cs) (zhK hx).1 (zhK hx).2.1 fun h1 h2 _=>(zod hW hc hm hx h1 h2).2
        rw[hd]at this;exact this
     ·cases h
theorem zxO{c a b:Operand}(ho:o.op=.pick c a b)(h:aop P nt o K (U.app fr) H):aop P nt o (fun f h=>K (U.app f) h∧Pst e o fr H f h) fr H:=by
 simp only[aop,ho,zdo hS (hW.of (x:=c) (by simp[ho,Op.operands])),zdo hS (hW.of (x:=a) (by simp[ho,Op.operands])),zdo hS (hW.of (x:=b) (by simp[ho,Op.operands]))]at h⊢;split at h
 ·split at h
  ·exact zdk h hA.ds (fun s k hh=>by cases hh) zhc
  ·cases h
 ·split at h
  ·exact zdk h hA.ds (fun s k hh=>by cases hh) zhc
  ·cases h
 ·cases h
theorem zrR{x:Operand}(ho:o.op=.move x∨o.op=.assign x)(h:aop P nt o K (U.app fr) H):aop P nt o (fun f h=>K (U.app f) h∧Pst e o fr H f h) fr H:=by
 have hx:∀t,t∈osl x→t∈e.sl:=hW.of (by rcases ho with ho|ho<;>simp[ho,Op.operands])
 have he:∀K fr,aop P nt o K fr H=match rda fr x with
  |some (.lp s off)=>zar nt K o.dst (.lp s off) fr H
  |_=>zaB P nt o K fr H:=by intro K fr;rcases ho with ho|ho<;>(simp only[aop,ho];rfl)
 rw[he]at h⊢;simp only[zeW hS hc hx]at h⊢;split at h
 ·rename_i s k hr;exact zdk h hA.ds (fun s' k' hh=>by cases hh;exact hA.rg s (ziX hc hx hr).1) zhc
 ·exact ziO hA hW hS hc h
theorem zqm{l c:Operand}(ho:o.op=.makeSlice t l c)(h:aop P nt o K (U.app fr) H):aop P nt o (fun f h=>K (U.app f) h∧Pst e o fr H f h) fr H:=by
 simp only[aop,ho,zdo hS (hW.of (x:=l) (by simp[ho,Op.operands])),zdo hS (hW.of (x:=c) (by simp[ho,Op.operands]))]at h⊢;split at h
 ·split at h
  ·split at h
   ·rename_i hcd;rw[if_pos hcd];have he:=hW.call (.inr (by simp[ho,zxC]));refine zdk h hA.ds (fun s k hh=>by cases hh) ?_;have:=zhc (e:=e) (o:=o) (fr:=fr) (H:=H) (x:=.v (.slice (some ⟨H.n,0,some ‹Nat›⟩) 0 0));refine zhM (h:=H) (fun _ _=>rfl) (fun _=>.inl rfl) ?_;intro h1;rw[he]at h1;cases h1
   ·cases h
  ·cases h
 ·cases h
theorem zyt{fn:Operand}(ho:o.op=.call ⟨.value fn,args,ts⟩)(h:aop P nt o K (U.app fr) H):aop P nt o (fun f h=>K (U.app f) h∧Pst e o fr H f h) fr H:=by
 have hm:∀x,x∈args.toList→x∈o.op.operands.toList:=by intro x hx;simp[ho,Op.operands,Call.operands];exact .inr (by simpa using hx)
 simp only[aop,ho,znu hA hW hS hc hm]at h⊢;cases hx:zaG fr H args.toList with
 |none=>rw[hx]at h;cases h
 |some r=>
  obtain⟨vs,f,h'⟩:=r;rw[hx]at h;simp only[Option.map_some]at h⊢
  have hfn:∀t,t∈osl fn→U.app f t=f t:=by
   intro t ht;have hin:=hW.of (x:=fn) (by simp[ho,Op.operands,Call.operands]) t ht;have h1:=hS.s t hin;have h2:=hA.sl t hin;rcases(zhK hx).2.1 t with e1|⟨_,y,e1⟩
   ·cases U with
    |no=>rfl
    |put d z=>simp only[Upd.dst,List.mem_singleton]at h2;simp[Upd.app,FR.put,h2]
    |loc d z=>
     simp only[Upd.dst,List.mem_singleton]at h2;simp only[Upd.app,FR.putLoc,if_neg h2]at h1⊢;rw[e1];exact h1
   ·cases U with
    |no=>rfl
    |put d z=>simp only[Upd.dst,List.mem_singleton]at h2;simp[Upd.app,FR.put,h2]
    |loc d z=>
     simp only[Upd.dst,List.mem_singleton]at h2;simp only[Upd.app,FR.putLoc,if_neg h2];rw[e1];rfl
  have hr:rdv (U.app f) fn=rdv f fn:=by
   cases fn with
   |tmp t=>simp only[rdv,hfn t (by simp[osl])]
   |_=>rfl
  rw[hr]at h;split at h
  ·rename_i g' first captured hg
   exact h.mono fun v H'' hk=>zdk hk hA.ds (fun s k hh=>by cases hh) (zhM (h:=h') (zhK hx).1 (zhK hx).2.1 fun h1=>by rw[hW.call (.inl (by simp[ho,zou]))]at h1;cases h1)
  ·cases h
omit hA hW hS hc in
theorem zry{t:Nat}{f:FR}(h2:t∉U.dst)(h1:U.app fr t=fr t)(e1:f t=fr t∨((∃l es cs,fr t=.ls l es cs)∧∃y,f t=.v y)):U.app f t=f t:=by
 rcases e1 with e1|⟨_,y,e1⟩
 ·cases U with
  |no=>rfl
  |put d z=>simp only[Upd.dst,List.mem_singleton]at h2;simp[Upd.app,FR.put,h2]
  |loc d z=>
   simp only[Upd.dst,List.mem_singleton]at h2;simp only[Upd.app,FR.putLoc,if_neg h2]at h1⊢;rw[e1];exact h1
 ·cases U with
  |no=>rfl
  |put d z=>simp only[Upd.dst,List.mem_singleton]at h2;simp[Upd.app,FR.put,h2]
  |loc d z=>
   simp only[Upd.dst,List.mem_singleton]at h2;simp only[Upd.app,FR.putLoc,if_neg h2];rw[e1];rfl
theorem zt9(ho:o.op=.call ⟨.builtin .append,args,ts⟩)(h:aop P nt o K (U.app fr) H):aop P nt o (fun f h=>K (U.app f) h∧Pst e o fr H f h) fr H:=by
 simp only[aop,ho]at h⊢;split at h
 ·rename_i s x t t' ha ht;split at h
  ·rename_i htt;rw[if_pos htt];have hms:s∈o.op.operands.toList:=by rw[ho];simp[Op.operands,Call.operands,ha]
   have hmx:x∈o.op.operands.toList:=by rw[ho];simp[Op.operands,Call.operands,ha]
   simp only[ztu hA hW hS hc hms]at h;cases hx:mat fr H s with
   |none=>rw[hx]at h;cases h
   |some r=>
    obtain⟨sv,f,h'⟩:=r;rw[hx]at h;simp only[Option.map_some]at h⊢
    have hsrc:zdS P t (U.app f) h' x=zdS P t f h' x:=by
     cases x with
     |tmp u=>
      have hin:=hW.of hmx u (by simp[osl]);have:=zry (hA.sl u hin) (hS.s u hin) ((zfI hx).2.1 u);simp only[zdS,this]
     |const c=>
      cases c<;>try rfl
      rename_i p n m;cases p<;>cases n<;>cases m<;>rfl
     |_=>rfl
    rw[hsrc]at h;split at h
    ·rename_i new mm hn;split at h
     ·rename_i v H'' hv;exact zdk h hA.ds (fun s k hh=>by cases hh) (zhM (h:=h') (zfI hx).1 (zfI hx).2.1 fun _ h2=>by rw[ho]at h2;simp[zeA]at h2)
     ·cases h
    ·cases h
  ·cases h
 ·cases h
theorem zx4(ho:o.op=.call ⟨.builtin .copy,args,ts⟩)(h:aop P nt o K (U.app fr) H):aop P nt o (fun f h=>K (U.app f) h∧Pst e o fr H f h) fr H:=by
 simp only[aop,ho]at h⊢;split at h
 ·rename_i x y t t' ha ht;have hmx:x∈o.op.operands.toList:=by rw[ho];simp[Op.operands,Call.operands,ha]
  have hmy:y∈o.op.operands.toList:=by rw[ho];simp[Op.operands,Call.operands,ha]
  have hsrc:zdS P t (U.app fr) H y=zdS P t fr H y:=by
   cases y with
   |tmp u=>simp only[zdS,hS.s u (hW.of hmy u (by simp[osl]))]
   |const c=>
    cases c<;>try rfl
    rename_i p n m;cases p<;>cases n<;>cases m<;>rfl
   |_=>rfl
  rw[hsrc,zdo hS (hW.of hmx)]at h;split at h
  ·split at h
   ·split at h
    ·rename_i hcd;rw[if_pos hcd];split at h
     ·exact zdk h hA.ds (fun s k hh=>by cases hh) (zhM (h:=H) (fun _ _=>rfl) (fun _=>.inl rfl) fun h1=>by rw[hW.call (.inl (by simp[ho,zou]))]at h1;cases h1)
     ·cases h
    ·cases h
   ·cases h
  ·cases h
 ·cases h
theorem zvO{a x:Operand}(ho:o.op=.store t a x)(h:aop P nt o K (U.app fr) H):aop P nt o (fun f h=>K (U.app f) h∧Pst e o fr H f h) fr H:=by
 have hmx:x∈o.op.operands.toList:=by simp[ho,Op.operands]
 have hma:a∈o.op.operands.toList:=by simp[ho,Op.operands]
 simp only[aop,ho,ztu hA hW hS hc hmx]at h⊢;cases hx:mat fr H x with
 |none=>rw[hx]at h;cases h
 |some r=>
  obtain⟨v,f,h'⟩:=r;rw[hx]at h;simp only[Option.map_some]at h⊢;cases hz:tsz P t with
  |none=>rw[hz]at h;cases h
  |some z=>
   obtain⟨gg,sz,rr⟩:=z;rw[hz]at h;simp only at h⊢;split at h
   ·rename_i hcd;rw[if_pos hcd]
    have hra:rda (U.app f) a=rda f a∧∀s k,rda f a=some (.lp s k)→s∈e.rg∧U.app f s=f s:=by
     have hloc:∀s,s∈e.rg→∀cs,f s=.loc cs→U.app f s=.loc cs:=fun s hs cs hf=>(zph (hA.rg s hs) cs).2 hf
     have hloc':∀s,s∈e.rg→∀cs,U.app f s=.loc cs→f s=.loc cs:=fun s hs cs hf=>(zph (hA.rg s hs) cs).1 hf
     cases a with
     |tmp u=>
      have hin:=hW.of hma u (by simp[osl]);have hu:=zry (hA.sl u hin) (hS.s u hin) ((zfI hx).2.1 u)
      have hk:∀y,f u=y→zyD y=true→okS e.rg e.ls u y=true:=by
       intro y hy hr;simp only[zdH,Bool.and_eq_true]at hc;have:=zjs hc.1 u hin;rcases(zfI hx).2.1 u with e1|⟨_,w,e1⟩
       ·rw[←hy,e1];exact this
       ·rw[hy]at e1;subst e1;cases hr
      simp only[rda,hu];cases hfu:f u with
      |lp s k=>
       have hs:s∈e.rg:=zow (hk _ hfu rfl);simp only;constructor
       ·cases hfs:f s with
        |loc cs=>rw[hloc s hs cs hfs]
        |_=>
         cases hUs:U.app f s with
         |loc cs=>rw[hloc' s hs cs hUs]at hfs;cases hfs
         |_=>rfl
       ·intro s' k' hh;cases hfs:f s with
        |loc cs=>rw[hfs]at hh;cases hh;exact⟨hs,by rw[hloc s hs cs hfs,hfs]⟩
        |_=>rw[hfs]at hh;cases hh
      |loc cs=>
       refine⟨rfl,fun s' k' hh=>?_⟩;cases hh;have hs:u∈e.rg:=ztx (hk _ hfu rfl);exact⟨hs,by rw[hloc u hs cs hfu,hfu]⟩
      |v y=>exact⟨rfl,fun _ _ hh=>by cases hh⟩
      |skip=>exact⟨rfl,fun _ _ hh=>by cases hh⟩
      |ls=>exact⟨rfl,fun _ _ hh=>by cases hh⟩
     |const c=>exact⟨rfl,fun s k hh=>by simp only[rda,rdv]at hh;split at hh<;>cases hh⟩
     |func c=>exact⟨rfl,fun s k hh=>by simp only[rda,rdv]at hh;cases hh⟩
     |global c=>exact⟨rfl,fun s k hh=>by simp only[rda,rdv]at hh;cases hh⟩
    rw[hra.1]at h;have hist:zfg o.op=true:=by rw[ho];rfl
    have hap:zeA o.op=false:=by rw[ho];rfl
    split at h
    ·rename_i s k hr;obtain⟨hs,hUs⟩:=hra.2 s k hr;rw[hUs]at h;cases hfs:f s with
     |loc cells=>
      rw[hfs]at h;simp only at h⊢;cases hp:zbQ cells k v.cells.toList with
      |none=>rw[hp]at h;cases h
      |some cs=>
       rw[hp]at h;simp only at h⊢;rw[zkQ (hA.rg s hs) (by intro a b hh;cases hh)]at h;refine zdk h hA.ds (fun s k hh=>by cases hh) ?_;have hp1:=zhc (e:=e) (fr:=f.put s (.loc cs)) (H:=h') (o:=o) (x:=.skip);have hm:=zfI hx;refine⟨fun t a b c d=>?_,fun s2 a b c2=>?_,fun h1 h2 _=>(zyF hW hc hmx hx h1 h2).2⟩
       ·have hne:t≠s:=by rintro rfl;exact b hist hs
        have e1:=hm.1 t c;rw[hp1.s t a b (by simp only[FR.put,if_neg hne];rw[e1];exact c) (by simp only[FR.put,if_neg hne];rw[e1];exact d)];simp only[FR.put,if_neg hne];exact e1
       ·have hne:s2≠s:=by rintro rfl;exact b hist hs
        rw[hp1.r s2 a b c2];simp only[FR.put,if_neg hne];rcases hm.2.1 s2 with e1|⟨⟨l,es,cc,e1⟩,y,e2⟩
        ·rw[e1]
        ·rw[e1,e2];simp
     |_=>rw[hfs]at h;cases h
    ·rename_i id off hr;split at h
     ·rename_i b hb;split at h
      ·rename_i hrw;rw[if_pos hrw];split at h
       ·rename_i cs hcs;refine zdk h hA.ds (fun s k hh=>by cases hh) (zhM (h:=h') (zfI hx).1 (zfI hx).2.1 fun h1 h2 h3=>?_);exfalso;rcases hW.mr (.inr hist)with h4|⟨u,h4,h5⟩
        ·exact h3 hist h4
        ·
         simp only[zdH,Bool.and_eq_true]at hc;have h6:=hc.2;rw[h4]at h6;simp only[okR]at h6;rw[ho]at h5;cases a with
         |tmp u'=>
          simp only[zjB,Option.some.injEq]at h5;subst h5;obtain⟨rfl,rfl⟩:=zyF hW (by simp only[zdH,Bool.and_eq_true];exact hc) hmx hx h1 h2;simp only[rda]at hr;cases hfu:f u' with
          |loc cs=>rw[hfu]at hr;cases hr
          |lp s k=>rw[hfu]at hr;simp only at hr;split at hr<;>cases hr
          |v y=>rw[hfu]at h6;cases h6
          |skip=>rw[hfu]at hr;cases hr
          |ls=>rw[hfu]at h6;cases h6
         |_=>simp[zjB]at h5
       ·cases h
      ·cases h
     ·cases h
    ·cases h
   ·cases h
theorem ztK(h:aop P nt o K (U.app fr) H):aop P nt o (fun f h=>K (U.app f) h∧Pst e o fr H f h) fr H:=by
 cases ho:o.op with
 |load=>exact zxx hA hW hS hc ho h
 |fieldAddr=>
  have:=znJ (P:=P) (nt:=nt) (K:=K) (H:=H) hA hW hS hc (by simp only[aop,ho]at h;rw[ho];exact h);simp only[aop,ho];rw[ho]at this;exact this
 |indexAddr t x i=>
  simp only[aop,ho]at h⊢;rcases h with h|⟨u,l,es,cs,k,j,el,g,z,rfl,a2,a3,a4,a5,a6,a7⟩
  ·have:=znJ (P:=P) (nt:=nt) (K:=K) (H:=H) hA hW hS hc (by rw[ho];exact h);rw[ho]at this;exact .inl this
  ·have hu:=hW.of (x:=.tmp u) (by simp[ho,Op.operands]) u (by simp[osl]);rw[hS.s u hu]at a2;rw[zdo hS (hW.of (x:=i) (by simp[ho,Op.operands]))]at a3;rw[zkQ (hA.sl u hu) (by intro s k hh;cases hh)]at a7;refine .inr ⟨u,l,es,cs,k,j,el,g,z,rfl,a2,a3,a4,a5,a6,zdk a7 hA.ds (fun s k hh=>by cases hh) ?_⟩;refine zhM (h:=H) (fun t ht=>?_) (fun t=>?_) fun h1 h2 _=>absurd a2 (zhH hW hc h1 h2 u hu l es cs)
   ·by_cases hh:t=u
    ·subst hh;exact absurd a2 (ht l es cs)
    ·simp[FR.put,hh]
   ·by_cases hh:t=u
    ·subst hh;exact .inr ⟨⟨l,es,cs,a2⟩,.slice (some ⟨H.n,0,some es⟩) l l,by simp[FR.put]⟩
    ·left;simp[FR.put,hh]
 |nilCheck=>
  have:=znJ (P:=P) (nt:=nt) (K:=K) (H:=H) hA hW hS hc (by simp only[aop,ho]at h;rw[ho];exact h);simp only[aop,ho];rw[ho]at this;exact this
 |alloc=>exact zwT hA hW hS hc ho h
 |box=>exact zzZ hA hW hS hc ho h
 |buildSlice=>exact zo9 hA hW hS hc ho h
 |store=>exact zvO hA hW hS hc ho h
 |pick=>exact zxO hA hW hS hc ho h
 |makeSlice=>exact zqm hA hW hS hc ho h
 |move=>exact zrR hA hW hS hc (.inl ho) h
 |assign=>exact zrR hA hW hS hc (.inr ho) h
 |convert s t x=>
  simp only[aop,ho]at h⊢;rcases h with h|⟨h1,l,ns,h2,h3⟩
  ·exact .inl (ziO hA hW hS hc h)
  ·refine .inr ⟨h1,l,ns,?_,zdk h3 hA.ds (fun s k hh=>by cases hh) zhc⟩;rw[←h2];cases x with
   |tmp u=>simp only[lsQ,hS.s u (hW.of (x:=.tmp u) (by simp[ho,Op.operands]) u (by simp[osl]))]
   |_=>rfl
 |call c=>
  obtain⟨callee,args,ts⟩:=c;cases callee with
  |value fn=>exact zyt hA hW hS hc ho h
  |builtin b=>
   cases b with
   |append=>exact zt9 hA hW hS hc ho h
   |copy=>exact zx4 hA hW hS hc ho h
   |_=>simp only[aop,ho]at h⊢;exact ziO hA hW hS hc h
  |_=>simp only[aop,ho]at h⊢;exact ziO hA hW hS hc h
 |_=>simp only[aop,ho]at h⊢;exact ziO hA hW hS hc h
theorem zzm(h:gop P nt pre o K (U.app fr) H):gop P nt pre o (fun f h=>K (U.app f) h∧Pst e o fr H f h) fr H:=by
 have hy:∀j b,o.guard=some (j,b)→zeD (U.app fr) pre j=zeD fr pre j:=by
  intro j b hg;unfold zeD;cases hp:pre[j]? with
  |none=>rfl
  |some d=>
   cases d with
   |none=>rfl
   |some d=>
    simp only;rw[hS.s d (hW.sl d (List.mem_append_right _ (by simp[gsl,hg,hp])))]
 unfold gop at h⊢;cases hg:o.guard with
 |none=>rw[hg]at h;exact ztK hA hW hS hc h
 |some p=>
  obtain⟨j,b⟩:=p;rw[hg]at h;simp only[hy j b hg]at h⊢;cases hv:zeD fr pre j with
  |none=>rw[hv]at h;cases h
  |some y=>
   rw[hv]at h;simp only at h⊢;split at h
   ·rename_i e1;rw[if_pos e1];exact ztK hA hW hS hc h
   ·rename_i e1;rw[if_neg e1];exact zdk h hA.ds (fun s k hh=>by cases hh) zhc
end
section
variable {P:Program}{nt:Nat}{pre:List (Option Tmp)}{e:DE}{o:Oper}{f g fr:FR}{H:AH}{U:Upd}{K:FR→AH→Prop}
variable{d:Option Tmp}{x:FV}
theorem zxj{x:Operand}{v:Value}{f1:FR}{h1:AH}(hs:∀t,t∈osl x→f t=fr t)(hn:∀t,t∈osl x→∀l es cs,fr t≠.ls l es cs)(hm:mat fr H x=some (v,f1,h1))(h:AH):mat f h x=some (v,f,h):=by
 have hr:=((zfI hm).2.2 hn).2.2;cases x with
 |tmp t=>
  simp only[rdv]at hr;simp only[mat,hs t (by simp[osl])];cases hf:fr t with
  |v y=>rw[hf]at hr;cases hr;rfl
  |_=>rw[hf]at hr;cases hr
 |const c=>simp only[mat];simp only[rdv]at hr⊢;rw[hr];rfl
 |func c=>simp only[mat];simp only[rdv]at hr⊢;rw[hr];rfl
 |global c=>cases hr
theorem zqc:∀{xs:List Operand}{vs:List Value}{f1:FR}{h1:AH}(_:∀t,t∈xs.flatMap osl→f t=fr t) (_:∀t,t∈xs.flatMap osl→∀l es cs,fr t≠.ls l es cs) (_:zaG fr H xs=some (vs,f1,h1)) (h:AH),zaG f h xs=some (vs,f,h):=by
 intro xs;induction xs with
 |nil=>intro vs f1 h1 _ _ hm h;cases hm;rfl
 |cons x xs ih=>
  intro vs f1 h1 hs hn hm h;simp only[List.flatMap_cons,List.mem_append]at hs hn;simp only[zaG]at hm;cases e1:mat fr H x with
  |none=>rw[e1]at hm;cases hm
  |some r=>
   obtain⟨v,f2,h2⟩:=r;have hx:=(zfI e1).2.2 fun t ht=>hn t (.inl ht)
   obtain⟨rfl,rfl,_⟩:=hx;rw[e1]at hm;simp only at hm;cases e2:zaG f2 h2 xs with
   |none=>rw[e2]at hm;cases hm
   |some r=>
    obtain⟨vs',f3,h3⟩:=r;rw[e2]at hm;cases hm;simp only[zaG,zxj (fun t ht=>hs t (.inl ht)) (fun t ht=>hn t (.inl ht)) e1 h,ih (fun t ht=>hs t (.inr ht)) (fun t ht=>hn t (.inr ht)) e2 h]
theorem zzl(h:zar nt K d x fr H):(∀t,d=some t→t<nt)∧K ((Upd.of d x).app fr) H:=by
 cases d with
 |none=>exact⟨fun _ h=>(by cases h),h⟩
 |some d=>
  simp only[zar]at h;split at h
  ·rename_i hd;exact⟨fun t e=>by cases e;exact hd,h⟩
  ·cases h
theorem zAc(hd:∀t,d=some t→t<nt)(h:K ((Upd.of d x).app fr) H):zar nt K d x fr H:=by
 cases d with
 |none=>exact h
 |some d=>simp only[zar];rw[if_pos (hd d rfl)];exact h
theorem zBB :(Upd.of d x).dst=d.toList:=by cases d<;>rfl
theorem zEs{t s k:Nat}(h:Upd.of d x=.put t (.lp s k)):x=.lp s k:=by
 cases d with
 |none=>cases h
 |some d=>simp only[Upd.of,Upd.put.injEq]at h;exact h.2
def znR(_:Program)(_:Nat)(e:DE)(o:Oper)(fr:FR)(H:AH)(K:FR→AH→Prop)(run:(FR→AH→Prop)→FR→AH→Prop):Prop:=
 ∃U:Upd,U.dst=o.dst.toList∧(∀d s k,U=.put d (.lp s k)→s∈e.rg)∧K (U.app fr) H∧
  ∀(f:FR) (h:AH) (K':FR→AH→Prop),Sim e f fr→(zjy o.op=true→e.rg=[]→Ext H h)→K' (U.app f) h→run K' f h
theorem zgy{run:(FR→AH→Prop)→FR→AH→Prop}(hx:∀s k,x=.lp s k→s∈e.rg)(h:zar nt K o.dst x fr H)
(hr:∀(f:FR) (h:AH) (K':FR→AH→Prop),Sim e f fr→(zjy o.op=true→e.rg=[]→Ext H h)→zar nt K' o.dst x f h→run K' f h):znR P nt e o fr H K run:=by
 have:=zzl h;exact⟨Upd.of o.dst x,zBB,fun d s k hu=>hx s k (zEs hu),this.2,fun f h K' hS hL hK=>hr f h K' hS hL (zAc this.1 hK)⟩
variable (hW:WF pre e o) (hs:zsy e o=true) (hc:zdH e fr=true)
include hW hs hc
theorem zrK:e.ext=false∧zeA o.op=false∧zfg o.op=false:=by
 simp only[zsy,Bool.and_eq_true,Bool.not_eq_true']at hs;exact⟨hs.1.1,hs.1.2,hs.2⟩
theorem zjb{xs:List Operand}(hp:zaJ o.op=some xs)(h:zaB P nt o K fr H):znR P nt e o fr H K (zaB P nt o):=by
 have hm:=zl2 hp;have hse:=zrK hW hs hc;unfold zaB at h;rw[hp]at h;simp only at h;cases hx:zaG fr H xs with
 |none=>rw[hx]at h;cases h
 |some r=>
  obtain⟨vs,f,h'⟩:=r;obtain⟨rfl,rfl⟩:=zod hW hc hm hx hse.1 hse.2.1;rw[hx]at h;simp only at h;cases hv:zaP P o.op vs with
  |none=>rw[hv]at h;cases h
  |some v=>
   rw[hv]at h;refine zgy (fun s k hh=>by cases hh) h fun f2 h2 K' hS _ hK=>?_
   unfold zaB;rw[hp];simp only;rw[zqc (fun t ht=>hS.s t (hW.ofL hm t ht)) (fun t ht=>zhH hW hc hse.1 hse.2.1 t (hW.ofL hm t ht)) hx h2];simp only[hv];exact hK
theorem zr7(h:aop P nt o K fr H):znR P nt e o fr H K (aop P nt o):=by
 have hse:=zrK hW hs hc
 have plain:(∀K fr H,aop P nt o K fr H=zaB P nt o K fr H)→znR P nt e o fr H K (aop P nt o):=by
  intro he;have e1:aop P nt o=zaB P nt o:=by funext K fr H;exact he K fr H
  rw[e1]at h⊢;cases hp:zaJ o.op with
  |none=>unfold zaB at h;rw[hp]at h;cases h
  |some xs=>exact zjb hW hs hc hp h
 have addr:(match zcV P fr o.op with|some x=>zar nt K o.dst x fr H|none=>False)→(∀K fr H,(match zcV P fr o.op with|some x=>zar nt K o.dst x fr H|none=>False)→aop P nt o K fr H)→znR P nt e o fr H K (aop P nt o):=by
  intro h he;cases hv:zcV P fr o.op with
  |none=>rw[hv]at h;cases h
  |some y=>
   rw[hv]at h;refine zgy (fun s k hh=>zsn hW hc (by rw[hv,hh])) h fun f2 h2 K' hS _ hK=>?_
   apply he
   have e2:zcV P f2 o.op=zcV P fr o.op:=by
    cases ho:o.op<;>simp only[zcV]
    ·rename_i x;rw[zeW hS hc (hW.of (by simp[ho,Op.operands]))]
    ·rename_i t x f;rw[zeW hS hc (hW.of (by simp[ho,Op.operands]))]
    ·rename_i t x i;rw[zeW hS hc (hW.of (by simp[ho,Op.operands])),zdo hS (hW.of (by simp[ho,Op.operands]))]
   rw[e2,hv];exact hK
 cases ho:o.op with
 |load t a=>
  have hx:∀t,t∈osl a→t∈e.sl:=hW.of (by simp[ho,Op.operands])
  have he:∀K fr H,aop P nt o K fr H=match zfr P t (zcq fr H a)with|some v=>zar nt K o.dst (.v v) fr H|none=>False:=by
   intro K fr H;simp only[aop,ho];rfl
  rw[he]at h;cases hv:zfr P t (zcq fr H a)with
  |none=>rw[hv]at h;cases h
  |some v=>
   rw[hv]at h;refine zgy (fun s k hh=>by cases hh) h fun f2 h2 K' hS hL hK=>?_
   rw[he]
   have hne:∃cs,zcq fr H a=some cs:=by
    cases hl:zcq fr H a with
    |none=>rw[hl]at hv;unfold zfr at hv;split at hv<;>simp_all
    |some cs=>exact⟨cs,rfl⟩
   obtain⟨cs,hcs⟩:=hne
   have e2:zcq f2 h2 a=zcq fr H a:=by
    rw[hcs];unfold zcq at hcs⊢;rw[zeW hS hc hx];cases hr:rda fr a with
    |none=>rw[hr]at hcs;cases hcs
    |some y=>
     rw[hr]at hcs;cases y with
     |lp s k=>
      obtain⟨h1,c2,h3⟩:=ziX hc hx hr;simp only at hcs⊢;rw[h3]at hcs;rw[(hS.r s h1 c2).2 h3];exact hcs
     |v y=>
      cases y<;>try (cases hcs;done)
      rename_i p;cases p with
      |none=>cases hcs
      |some p=>
       obtain⟨id,off,sp⟩:=p;cases sp with
       |some _=>cases hcs
       |none=>
        have hrg:e.rg=[]:=by
         rcases hW.mr (.inl (by rw[ho];rfl))with h4|⟨u,h4,h5⟩
         ·exact h4
         ·exfalso;simp only[zdH,Bool.and_eq_true]at hc;have h6:=hc.2;rw[h4]at h6;simp only[okR]at h6;rw[ho]at h5;cases a with
          |tmp u'=>
           simp only[zjB,Option.some.injEq]at h5;subst h5;simp only[rda]at hr;cases hfu:fr u' with
           |loc cs=>rw[hfu]at hr;cases hr
           |lp s k=>rw[hfu]at hr;simp only at hr;split at hr<;>cases hr
           |v y=>rw[hfu]at h6;cases h6
           |skip=>rw[hfu]at hr;cases hr
           |ls=>rw[hfu]at h6;cases h6
          |_=>simp[zjB]at h5
        have hE:=hL (by rw[ho];rfl) hrg;simp only[AH.load,Option.map_eq_some_iff]at hcs⊢;obtain⟨b,h7,h8⟩:=hcs;exact⟨b,hE.2 id b h7,h8⟩
     |_=>cases hcs
   rw[e2,hv];exact hK
 |fieldAddr=>exact addr (by simp only[aop,ho]at h;rw[ho];exact h) (fun K fr H hh=>by simp only[aop,ho];rw[ho]at hh;exact hh)
 |indexAddr t x i=>
  have h1:=h;simp only[aop,ho]at h1;rcases h1 with h1|⟨u,l,es,cs,k,j,el,g,z,rfl,a2,_⟩
  ·exact addr (by rw[ho];exact h1) (fun K fr H hh=>by simp only[aop,ho];rw[ho]at hh;exact .inl hh)
  ·exact absurd a2 (zhH hW hc hse.1 hse.2.1 u (hW.of (x:=.tmp u) (by simp[ho,Op.operands]) u (by simp[osl])) l es cs)
 |nilCheck=>exact addr (by simp only[aop,ho]at h;rw[ho];exact h) (fun K fr H hh=>by simp only[aop,ho];rw[ho]at hh;exact hh)
 |alloc t=>
  have he:∀K fr H,aop P nt o K fr H=match tsz P t,o.dst with
   |some (_,_,_,z),some d=>if d<nt∧z.all zai=true then K (fr.putLoc d z) H else False
   |_,_=>False:=by intro K fr H;simp only[aop,ho];rfl
  rw[he]at h;split at h
  ·rename_i a1 a2 a3 z d hz hd;split at h
   ·rename_i hcd;refine⟨.loc d z,by simp[Upd.dst,hd],fun _ _ _ hh=>(by cases hh),h,fun f2 h2 K' _ _ hK=>?_⟩;rw[he,hz,hd];simp only;rw[if_pos hcd];exact hK
   ·cases h
  ·cases h
 |box t x=>
  have he:∀K fr H,aop P nt o K fr H=match tsz P t,rdv fr x,o.dst with
   |some _,some v,some d=>if d<nt∧zgi v=true then K (fr.putLoc d v.cells.toList) H else False
   |_,_,_=>False:=by intro K fr H;simp only[aop,ho];rfl
  rw[he]at h;split at h
  ·rename_i z v d hz hv hd;split at h
   ·rename_i hcd;refine⟨.loc d v.cells.toList,by simp[Upd.dst,hd],fun _ _ _ hh=>(by cases hh),h,fun f2 h2 K' hS _ hK=>?_⟩;rw[he,hz,hd,zdo hS (hW.of (x:=x) (by simp[ho,Op.operands])),hv];simp only;rw[if_pos hcd];exact hK
   ·cases h
  ·cases h
 |buildSlice t len ps=>
  have hm:∀x,x∈ps.toList.map (·.2)→x∈o.op.operands.toList:=by intro x hx;simpa[ho,Op.operands]using hx
  have he:∀K fr H,aop P nt o K fr H=match zaw P t,o.dst,zaG fr H (ps.toList.map (·.2))with
   |some e,some d,some (vs,fr',H')=>match tsz P e with
    |some (_,es,_,z)=>if d<nt∧len*es≤2^24∧z.length=es∧es≠0∧z.all zai=true then
     match zdE (fun i=>some (i*es,es)) ((ps.toList.map (·.1)).zip vs) ((List.replicate len z).flatten)with
     |some cs=>K (fr'.put d (.ls len es cs)) H'
     |none=>False
     else False
    |none=>False
   |_,_,_=>False:=by intro K fr H;simp only[aop,ho];rfl
  rw[he]at h;cases h1:zaw P t with
  |none=>rw[h1]at h;cases h
  |some el=>
   cases hd:o.dst with
   |none=>rw[h1,hd]at h;cases h
   |some d=>
    cases hx:zaG fr H (ps.toList.map (·.2))with
    |none=>rw[h1,hd,hx]at h;cases h
    |some r=>
     obtain⟨vs,f,h'⟩:=r;obtain⟨rfl,rfl⟩:=zod hW hc hm hx hse.1 hse.2.1;rw[h1,hd,hx]at h;simp only at h;cases hz:tsz P el with
     |none=>rw[hz]at h;cases h
     |some z=>
      obtain⟨gg,es,b,z⟩:=z;rw[hz]at h;simp only at h;split at h
      ·rename_i hcd;cases hf:zdE (fun i=>some (i*es,es)) ((ps.toList.map (·.1)).zip vs) ((List.replicate len z).flatten)with
       |none=>rw[hf]at h;cases h
       |some cs=>
        rw[hf]at h;refine⟨.put d (.ls len es cs),by simp[Upd.dst,hd],fun _ _ _ hh=>(by cases hh),h,fun f2 h2 K' hS _ hK=>?_⟩;rw[he,h1,hd,zqc (fun t ht=>hS.s t (hW.ofL hm t ht)) (fun t ht=>zhH hW hc hse.1 hse.2.1 t (hW.ofL hm t ht)) hx h2];simp only[hz];rw[if_pos hcd,hf];exact hK
      ·cases h
 |pick c a b=>
  have hc':=fun{f2:FR}(hS:Sim e f2 fr)=>zdo hS (hW.of (x:=c) (by simp[ho,Op.operands]))
  have ha':=fun{f2:FR}(hS:Sim e f2 fr)=>zdo hS (hW.of (x:=a) (by simp[ho,Op.operands]))
  have hb':=fun{f2:FR}(hS:Sim e f2 fr)=>zdo hS (hW.of (x:=b) (by simp[ho,Op.operands]))
  have he:∀K fr H,aop P nt o K fr H=match rdv fr c with
   |some (.bool true)=>match rdv fr a with
    |some v=>zar nt K o.dst (.v v) fr H
    |none=>False
   |some (.bool false)=>match rdv fr b with
    |some v=>zar nt K o.dst (.v v) fr H
    |none=>False
   |_=>False:=by intro K fr H;simp only[aop,ho];rfl
  rw[he]at h;split at h
  ·rename_i hcv;split at h
   ·rename_i v hv;refine zgy (fun s k hh=>by cases hh) h fun f2 h2 K' hS _ hK=>?_
    rw[he,hc' hS,hcv];simp only;rw[ha' hS,hv];exact hK
   ·cases h
  ·rename_i hcv;split at h
   ·rename_i v hv;refine zgy (fun s k hh=>by cases hh) h fun f2 h2 K' hS _ hK=>?_
    rw[he,hc' hS,hcv];simp only;rw[hb' hS,hv];exact hK
   ·cases h
  ·cases h
 |makeSlice=>exact absurd (hW.call (.inr (by rw[ho];rfl))) (by rw[hse.1];decide)
 |store=>have:=hse.2.2;rw[ho]at this;cases this
 |move x=>
  have hx:∀t,t∈osl x→t∈e.sl:=hW.of (by simp[ho,Op.operands])
  have he:∀K fr H,aop P nt o K fr H=match rda fr x with
   |some (.lp s off)=>zar nt K o.dst (.lp s off) fr H
   |_=>zaB P nt o K fr H:=by intro K fr H;simp only[aop,ho];rfl
  rw[he]at h;split at h
  ·rename_i s k hr;refine zgy (fun s' k' hh=>by cases hh;exact(ziX hc hx hr).1) h fun f2 h2 K' hS _ hK=>?_
   rw[he,zeW hS hc hx,hr];exact hK
  ·rename_i hr;obtain⟨U,h1,h2,h3,h4⟩:=zjb hW hs hc (xs:=[x]) (by rw[ho];rfl) h;refine⟨U,h1,h2,h3,fun f2 h2 K' hS hL hK=>?_⟩;rw[he,zeW hS hc hx];have:=h4 f2 h2 K' hS hL hK;split
   ·rename_i s k hr';exact absurd hr' (hr s k)
   ·exact this
 |assign x=>
  have hx:∀t,t∈osl x→t∈e.sl:=hW.of (by simp[ho,Op.operands])
  have he:∀K fr H,aop P nt o K fr H=match rda fr x with
   |some (.lp s off)=>zar nt K o.dst (.lp s off) fr H
   |_=>zaB P nt o K fr H:=by intro K fr H;simp only[aop,ho];rfl
  rw[he]at h;split at h
  ·rename_i s k hr;refine zgy (fun s' k' hh=>by cases hh;exact(ziX hc hx hr).1) h fun f2 h2 K' hS _ hK=>?_
   rw[he,zeW hS hc hx,hr];exact hK
  ·rename_i hr;obtain⟨U,h1,h2,h3,h4⟩:=zjb hW hs hc (xs:=[x]) (by rw[ho];rfl) h;refine⟨U,h1,h2,h3,fun f2 h2 K' hS hL hK=>?_⟩;rw[he,zeW hS hc hx];have:=h4 f2 h2 K' hS hL hK;split
   ·rename_i s k hr';exact absurd hr' (hr s k)
   ·exact this
 |call c=>
  obtain⟨callee,args,ts⟩:=c;cases callee with
  |value fn=>exact absurd (hW.call (.inl (by rw[ho];rfl))) (by rw[hse.1];decide)
  |builtin b=>
   cases b with
   |append=>have:=hse.2.1;rw[ho]at this;cases this
   |copy=>exact absurd (hW.call (.inl (by rw[ho];rfl))) (by rw[hse.1];decide)
   |_=>exact plain (fun K fr H=>by simp only[aop,ho])
  |_=>exact plain (fun K fr H=>by simp only[aop,ho])
 |convert s t x=>
  have he:∀K fr H,aop P nt o K fr H=(zaB P nt o K fr H∨((zg1 P s=true∧zaE P t=true∧o.dst.isSome=true)∧∃l ns,lsQ fr x=some (l,ns.map (Value.int .u8))∧zar nt K o.dst (.v (.string (zcY ns))) fr H)):=by intro K fr H;simp only[aop,ho]
  rw[he]at h;rcases h with h|⟨h1,l,ns,h2,h3⟩
  ·obtain⟨U,h1,h2,h3,h4⟩:=zjb hW hs hc (xs:=[x]) (by rw[ho];rfl) h;refine⟨U,h1,h2,h3,fun f2 h2 K' hS hL hK=>?_⟩;rw[he];exact .inl (h4 f2 h2 K' hS hL hK)
  ·exfalso;cases x with
   |tmp u=>
    simp only[lsQ]at h2;cases hf:fr u with
    |ls len es cells=>exact zhH hW hc hse.1 hse.2.1 u (hW.of (x:=.tmp u) (by simp[ho,Op.operands]) u (by simp[osl])) _ _ _ hf
    |_=>rw[hf]at h2;cases h2
   |_=>cases h2
 |_=>exact plain (fun K fr H=>by simp only[aop,ho])
theorem zxZ(h:gop P nt pre o K fr H):znR P nt e o fr H K (gop P nt pre o):=by
 have hy:∀{f:FR}(_:Sim e f fr) j b,o.guard=some (j,b)→zeD f pre j=zeD fr pre j:=by
  intro f hS j b hg;unfold zeD;cases hp:pre[j]? with
  |none=>rfl
  |some d=>
   cases d with
   |none=>rfl
   |some d=>
    simp only;rw[hS.s d (hW.sl d (List.mem_append_right _ (by simp[gsl,hg,hp])))]
 unfold gop at h;cases hg:o.guard with
 |none=>
  rw[hg]at h;obtain⟨U,h1,h2,h3,h4⟩:=zr7 hW hs hc h;refine⟨U,h1,h2,h3,fun f2 h2 K' hS hL hK=>?_⟩;unfold gop;rw[hg];exact h4 f2 h2 K' hS hL hK
 |some p=>
  obtain⟨j,b⟩:=p;rw[hg]at h;simp only at h;cases hv:zeD fr pre j with
  |none=>rw[hv]at h;cases h
  |some y=>
   rw[hv]at h;simp only at h;split at h
   ·rename_i e1;obtain⟨U,h1,h2,h3,h4⟩:=zr7 hW hs hc h;refine⟨U,h1,h2,h3,fun f2 h2 K' hS hL hK=>?_⟩;unfold gop;rw[hg];simp only;rw[hy hS j b hg,hv];simp only;rw[if_pos e1];exact h4 f2 h2 K' hS hL hK
   ·rename_i e1;refine zgy (fun s k hh=>by cases hh) h fun f2 h2 K' hS _ hK=>?_
    unfold gop;rw[hg];simp only;rw[hy hS j b hg,hv];simp only;rw[if_neg e1];exact hK
end
theorem zmA{xs ys:List Nat}(h:zr6 xs ys=true):∀t,t∈xs→t∉ys:=by
 intro t ht hy;simp only[zr6,List.all_eq_true]at h;have:=h t ht;simp[hy]at this
section
variable {P:Program}{nt:Nat}{pre:List (Option Tmp)}{K:FR→AH→Prop}{fr:FR}{H:AH}
theorem zrb{e:DE}{o:Oper}{K K2:FR→AH→Prop}(hk:∀fr H,K fr H→K2 fr H){fr:FR}{H:AH}(h:dop P nt pre e o K fr H):dop P nt pre e o K2 fr H:=
 ⟨h.1,znZ (fun fr H h'=>⟨h'.1,hk fr H h'.2⟩) h.2⟩
theorem zwC:∀{l:List (DE×Oper)}{K K2:FR→AH→Prop}(_:∀fr H,K fr H→K2 fr H) {fr:FR}{H:AH},dops P nt pre l K fr H→dops P nt pre l K2 fr H:=by
 intro l;induction l with
 |nil=>intro K K2 hk fr H h;exact hk _ _ h
 |cons p l ih=>intro K K2 hk fr H h;exact zrb (fun _ _ h'=>ih hk h') h
theorem swap{x y:DE}{p q:Oper}(wx:WF pre x p)(wy:WF pre y q)(hp:zkR x p y q=true)(h:dop P nt pre x p (dop P nt pre y q K) fr H):dop P nt pre y q (dop P nt pre x p K) fr H:=by
 simp only[zkR,Bool.and_eq_true]at hp;obtain⟨⟨⟨⟨⟨h1,h2⟩,h3⟩,h4⟩,h5⟩,h6w⟩:=hp;have hse:=zrK wx h1 h.1;have d1:=zmA h2;have d2:=zmA h3;simp only[List.mem_append,not_or]at d1 d2
 obtain⟨U,hd,hlp,⟨hcy,hy⟩,hrun⟩:znR P nt x p fr H (dop P nt pre y q K) (gop P nt pre p):=by
  refine zxZ wx h1 h.1 ?_;exact znZ (fun _ _ hh=>hh.2) h.2
 have hA:Apt U y q:=by
  refine⟨fun t ht=>?_,fun s hs=>?_,fun t ht=>?_,fun d s k hu hs=>(d2 s hs).2 (hlp d s k hu)⟩
  ·rw[hd];intro hh;exact(d1 t hh).1.1 ht
  ·rw[hd];intro hh;exact(d1 s hh).1.2 hs
  ·rw[hd];intro hh;exact(d1 t hh).2 ht
 have hS:Sim y (U.app fr) fr:=zzB hA.sl hA.rg hcy
 have hcy':zdH y fr=true:=by
  rw[←zqi hS wy.mrs];exact hcy
 refine⟨hcy',?_⟩;refine znZ ?_ (zzm hA wy hS hcy' hy);rintro f h' ⟨⟨hE,hK⟩,hP⟩;refine⟨hE,?_⟩
 have hSx:Sim x f fr:=by
  have hst:∀t,t∈x.sl∨t∈x.rg→zfg q.op=true→t∉y.rg:=by
   intro t ht hs hr;simp only[hs,Bool.not_true,Bool.false_or]at h5;have:=zmA h5 t hr;simp only[List.mem_append,not_or]at this;rcases ht with ht|ht
   ·exact this.1 ht
   ·exact this.2 ht
  refine⟨fun t ht=>?_,fun s hs cs=>?_⟩
  ·refine hP.s t (fun hh=>(d2 t hh).1 ht) (hst t (.inl ht)) (zhH wx h.1 hse.1 hse.2.1 t ht) ?_;intro d k hdq hf;have hk:=h.1;simp only[zdH,Bool.and_eq_true]at hk;have hk:=zjs hk.1 t ht;rw[hf]at hk;exact(d2 d hdq).2 (zow hk)
  ·exact hP.r s (fun hh=>(d2 s hh).2 hs) (hst s (.inr hs)) cs
 have hL:zjy p.op=true→x.rg=[]→Ext H h':=by
  intro hl hr;simp only[hl,hr,List.isEmpty_nil,Bool.and_self,Bool.not_true,Bool.false_or]at h6w;simp only[hl,hr,List.isEmpty_nil,Bool.and_self,Bool.not_true,Bool.false_or,Bool.and_eq_true,Bool.not_eq_true',Bool.or_eq_true]at h4;cases hye:y.ext with
  |true=>exact hE (by simp only[DE.ex,hye,h6w,Bool.and_self])
  |false=>
   rw [hP.h hye h4.1 fun hs => by rcases h4.2 with(h6|h6)|h6
                                  ·rw[hs]at h6;cases h6
                                  ·intro h7;rw[h7]at h6;cases h6
                                  ·rw[hye]at h6;cases h6]
   exact .refl H
 have:=hrun f h' (fun fr' H'=>(x.ex=true→Ext h' H')∧K fr' H') hSx hL ⟨fun hh=>(by simp only[DE.ex,hse.1,Bool.false_and]at hh;cases hh),hK⟩;refine⟨?_,this⟩;rw[zqi hSx wx.mrs];exact h.1
end
def zpd(bs:List Nat)(o:Oper):Nat:=o.after.toList.foldl (fun s e=>if Region.binds .any e then s|||2^e.on|||bs.getD e.on 0 else s) 0
def zsv:List Oper→List Nat→List Nat
 |[],bs=>bs
 |o::r,bs=>zsv r (bs++[zpd bs o])
def zkU(bs:List Nat)(xs:List (Nat×Nat))(j:Nat)(o:Oper):Nat:=xs.foldl (fun s p=>if p.2=j then s|||2^p.1|||bs.getD p.1 0 else s) (zpd bs o)
def itX(ops:List Oper)(xs:List (Nat×Nat)):Nat→List Nat→List Nat
 |0,bs=>bs
 |n+1,bs=>itX ops xs n ((List.range ops.length).map fun j=>zkU bs xs j (ops.getD j default))
def ziu(ops:List Oper)(bs:List Nat):List DE→Bool
 |[]=>true
 |x::r=>(r.all fun y=>y.i !=x.i&&((bs.getD y.i 0).testBit x.i||zkR x (ops.getD x.i default) y (ops.getD y.i default)))&&ziu ops bs r
def zjv(D:List DE)(ops:List Oper)(xs:List (Nat×Nat):=[]):Bool:=
 let bs:=if xs.isEmpty then zsv ops []else itX ops xs 6 (zsv ops [])
 let pre:=ops.map (·.dst)
 (D.length==ops.length)&&(xs.all fun p=>Nat.blt p.1 ops.length&&p.1 !=p.2)&&
 ((List.range ops.length).all fun j=>bs.getD j 0==zkU bs xs j (ops.getD j default)&&((ops.getD j default).after.toList.all fun e=> !Region.binds .any e||Nat.blt e.on j)&&(D.map (·.i)).contains j)&&
 (D.all fun x=>Nat.blt x.i ops.length&&zxo pre x (ops.getD x.i default))&&ziu ops bs D
def zjM(run:List DE→Prop)(ops:List Oper):Nat→List (Nat×Nat)→Prop
 |0,xs=>∃D:List DE,zjv D ops xs=true∧run D
 |n+1,xs=>∃a b,a≠b∧zjM run ops n ((a,b)::xs)∧zjM run ops n ((b,a)::xs)
theorem zkj{run run2:List DE→Prop}{ops:List Oper}(hk:∀D,run D→run2 D):∀{n:Nat}{xs:List (Nat×Nat)},zjM run ops n xs→zjM run2 ops n xs:=by
 intro n;induction n with
 |zero=>intro xs ⟨D,h,h'⟩;exact⟨D,h,hk D h'⟩
 |succ n ih=>intro xs ⟨a,b,h,h1,h2⟩;exact⟨a,b,h,ih h1,ih h2⟩
def zqN(P:Program)(nt:Nat)(ops:Array Oper)(K:FR→AH→Prop)(fr:FR)(H:AH):Prop:=
 P.follows .mixedOrders=true∧∃n,zjM (fun D=>dops P nt (ops.toList.map (·.dst)) (D.map fun x=>(x,ops.toList.getD x.i default)) K fr H) ops.toList n []
theorem zue{P:Program}{nt:Nat}{ops:Array Oper}{K K2:FR→AH→Prop}(hk:∀fr H,K fr H→K2 fr H){fr:FR}{H:AH}(h:zqN P nt ops K fr H):zqN P nt ops K2 fr H:=
 let⟨h0,n,h1⟩:=h;⟨h0,n,zkj (fun _=>zwC hk) h1⟩
theorem zzA{bs:List Nat}{o:Oper}{x:Nat}(h:(zpd bs o).testBit x=true):∃e,e∈o.after.toList∧Region.binds .any e=true∧(e.on=x∨(bs.getD e.on 0).testBit x=true):=by
 have key:∀(l:List Edge) (s:Nat),(l.foldl (fun s e=>if Region.binds .any e then s|||2^e.on|||bs.getD e.on 0 else s) s).testBit x=true→s.testBit x=true∨∃e,e∈l∧Region.binds .any e=true∧(e.on=x∨(bs.getD e.on 0).testBit x=true):=by
  intro l;induction l with
  |nil=>intro s h;exact .inl h
  |cons e l ih=>
   intro s h;simp only[List.foldl_cons]at h;rcases ih _ h with h1|⟨e',h1,h2⟩
   ·split at h1
    ·rename_i hb;rw[Nat.testBit_or,Nat.testBit_or]at h1;simp only[Bool.or_eq_true]at h1;rcases h1 with(h1|h1)|h1
     ·exact .inl h1
     ·rw[Nat.testBit_two_pow]at h1;exact .inr ⟨e,List.mem_cons_self ..,hb,.inl (by simpa using h1)⟩
     ·exact .inr ⟨e,List.mem_cons_self ..,hb,.inr h1⟩
    ·exact .inl h1
   ·exact .inr ⟨e',List.mem_cons_of_mem _ h1,h2⟩
 rcases key _ _ h with h|h
 ·simp at h
 ·exact h
section
variable {P:Program}{nt:Nat}{pre:List (Option Tmp)}{K:FR→AH→Prop}
theorem zKw{q:DE×Oper}(wq:WF pre q.1 q.2){B:List (DE×Oper)}:∀{A:List (DE×Oper)}{fr:FR}{H:AH}(_:∀p,p∈A→WF pre p.1 p.2∧zkR p.1 p.2 q.1 q.2=true) (_:dops P nt pre (A++q::B) K fr H),dops P nt pre (q::(A++B)) K fr H:=by
 intro A;induction A with
 |nil=>intro fr H _ h;exact h
 |cons p A ih=>
  intro fr H hp h;have h1:dop P nt pre p.1 p.2 (dops P nt pre (q::(A++B)) K) fr H:=zrb (fun fr H hh=>ih (fun p hp'=>hp p (List.mem_cons_of_mem _ hp')) hh) h;have h2:=hp p (List.mem_cons_self ..);exact swap h2.1 wq h2.2 h1
theorem zxk{bs:List Nat}{xs:List (Nat×Nat)}{j:Nat}{o:Oper}{x:Nat}(h:(zkU bs xs j o).testBit x=true):(∃e,e∈o.after.toList∧Region.binds .any e=true∧(e.on=x∨(bs.getD e.on 0).testBit x=true))∨∃p,p∈xs∧p.2=j∧(p.1=x∨(bs.getD p.1 0).testBit x=true):=by
 have key:∀(l:List (Nat×Nat)) (s:Nat),(l.foldl (fun s p=>if p.2=j then s|||2^p.1|||bs.getD p.1 0 else s) s).testBit x=true→s.testBit x=true∨∃p,p∈l∧p.2=j∧(p.1=x∨(bs.getD p.1 0).testBit x=true):=by
  intro l;induction l with
  |nil=>intro s h;exact .inl h
  |cons e l ih=>
   intro s h;simp only[List.foldl_cons]at h;rcases ih _ h with h1|⟨e',h1,h2⟩
   ·split at h1
    ·rename_i hb;rw[Nat.testBit_or,Nat.testBit_or]at h1;simp only[Bool.or_eq_true]at h1;rcases h1 with(h1|h1)|h1
     ·exact .inl h1
     ·rw[Nat.testBit_two_pow]at h1;exact .inr ⟨e,List.mem_cons_self ..,hb,.inl (by simpa using h1)⟩
     ·exact .inr ⟨e,List.mem_cons_self ..,hb,.inr h1⟩
    ·exact .inl h1
   ·exact .inr ⟨e',List.mem_cons_of_mem _ h1,h2⟩
 rcases key _ _ h with h|h
 ·exact .inl (zzA h)
 ·exact .inr h
theorem zxc{ops:List Oper}{bs:List Nat}{x:DE}{B:List DE}:∀{A:List DE},ziu ops bs (A++x::B)=true→
 (∀y,y∈A→x.i≠y.i∧((bs.getD x.i 0).testBit y.i=true∨zkR y (ops.getD y.i default) x (ops.getD x.i default)=true))∧(∀y,y∈B→y.i≠x.i)∧ziu ops bs (A++B)=true:=by
 intro A;induction A with
 |nil=>
  intro h;simp only[List.nil_append,ziu,Bool.and_eq_true,List.all_eq_true]at h;refine⟨fun _ hy=>(by cases hy),fun y hy=>?_,h.2⟩;have:=(h.1 y hy).1;simpa using this
 |cons a A ih=>
  intro h;simp only[List.cons_append,ziu,Bool.and_eq_true,List.all_eq_true,Bool.or_eq_true]at h⊢;obtain⟨i1,i2,i3⟩:=ih h.2;refine⟨fun y hy=>?_,i2,fun y hy=>?_,i3⟩
  ·rcases List.mem_cons.1 hy with rfl|hy
   ·have:=h.1 x (by simp);exact⟨by simpa using this.1,this.2⟩
   ·exact i1 y hy
  ·refine h.1 y ?_;rcases List.mem_append.1 hy with hy|hy
   ·exact List.mem_append_left _ hy
   ·exact List.mem_append_right _ (List.mem_cons_of_mem _ hy)
end
structure Inv (ops:List Oper) (bs:List Nat) (listed:Array Bool) (L:List DE):Prop where
 sz:listed.size=ops.length
 pairs:ziu ops bs L=true
 wf:∀x,x∈L→x.i<ops.length∧WF (ops.map (·.dst)) x (ops.getD x.i default)
 cov:∀i,i<ops.length→listed.getD i true=true∨∃x,x∈L∧x.i=i
 un:∀x,x∈L→listed.getD x.i true=false
 cl:∀j,j<ops.length→listed.getD j true=true→∀x,(bs.getD j 0).testBit x=true→listed.getD x false=true
theorem zj7(a:Array Bool)(d t:Nat)(u:Bool)(hd:d<a.size):(a.setIfInBounds d true).getD t u=if t=d then true else a.getD t u:=by
 simp only[Array.getD_eq_getD_getElem?,Array.getElem?_setIfInBounds];by_cases h:d=t
 ·subst h;simp[hd]
 ·rw[if_neg h,if_neg (fun e=>h e.symm)]
section
variable {c:Ctx}{P:Program}{K:FR→AH→Prop}{Q:Exit→Act→World→Prop}{ops:Array Oper}{bs:List Nat}
def Sch(ops:Array Oper):Nat→Array Bool→List Nat→Prop
 |0,_,s=>s=[]
 |n+1,listed,s=>(s=[]∧Region.ready .any ops listed=[])∨∃i s',s=i::s'∧i∈Region.ready .any ops listed∧Sch ops n (listed.setIfInBounds i true) s'
theorem zBh:∀(fuel t:Nat) (listed:Array Bool),Sch ops fuel listed (Region.linearise.go .any ops fuel t listed []):=by
 intro fuel;induction fuel with
 |zero=>intro t listed;rfl
 |succ fuel ih=>
  intro t listed;simp only[Region.linearise.go]
  change Sch ops (fuel+1) listed (match(Region.ready .any ops listed)[t%(Region.ready .any ops listed).length]? with
   |some i=>Region.linearise.go .any ops fuel (t/(Region.ready .any ops listed).length) (listed.setIfInBounds i true) [i]
   |none=>[].reverse)
  cases hi:(Region.ready .any ops listed)[t%(Region.ready .any ops listed).length]? with
  |none=>
   refine .inl ⟨rfl,?_⟩;cases hr:Region.ready .any ops listed with
   |nil=>rfl
   |cons x xs=>
    rw[hr]at hi;have hlt:t%(x::xs).length<(x::xs).length:=Nat.mod_lt _ (by simp);simp at hi;simp at hlt;omega
  |some i=>
   simp only[];rw[linearise_go_acc,List.reverse_singleton,List.singleton_append];exact .inr ⟨i,_,rfl,List.mem_of_getElem? hi,ih _ _⟩
def bef(a b:Nat):List Nat→Bool
 |[]=>true
 |i::s=>if i=a then true else if i=b then false else bef a b s
theorem zBy{a b:Nat}(h:a≠b):∀s,bef a b s=true∨bef b a s=true:=by
 intro s;induction s with
 |nil=>exact .inl rfl
 |cons i s ih=>
  simp only[bef];by_cases h1:i=a
  ·exact .inl (if_pos h1)
  ·by_cases h2:i=b
   ·exact .inr (if_pos h2)
   ·rw[if_neg h1,if_neg h2,if_neg h2,if_neg h1];exact ih
theorem zsU{xs:List (Nat×Nat)}(hxs:∀p,p∈xs→p.1<ops.toList.length∧p.1≠p.2)(hbs:∀j,j<ops.toList.length→bs.getD j 0=zkU bs xs j (ops.toList.getD j default))(hlt:∀j,j<ops.toList.length→∀e,e∈(ops.toList.getD j default).after.toList→Region.binds .any e=true→e.on<j)
(hn:∀m' fr' H' a' w',K fr' H'→RelS c m' fr' H' a' w'→Q .normal a' w'):∀(fuel:Nat) {s:List Nat}{listed:Array Bool}{L:List DE}{m:Mu}{fr:FR}{H:AH}{a:Act}{w:World},
 L.length=fuel→Sch ops fuel listed s→(∀p,p∈xs→listed.getD p.1 true=true∨bef p.1 p.2 s=true)→Inv ops.toList bs listed L→dops P c.nt (ops.toList.map (·.dst)) (L.map fun x=>(x,ops.toList.getD x.i default)) K fr H→RelS c m fr H a w→wpOps P ops Q s a w:=by
 intro fuel
 have hrd:∀{listed:Array Bool}{i:Nat},i∈Region.ready .any ops listed→i<ops.toList.length∧listed.getD i true=false∧∀e,e∈(ops.toList.getD i default).after.toList→Region.binds .any e=true→listed.getD e.on false=true:=by
  intro listed i hi;simp only[Region.ready,List.mem_filter,List.mem_range,Bool.and_eq_true,Bool.not_eq_true']at hi;obtain⟨h1,h2,h3⟩:=hi;refine⟨by simpa using h1,h2,fun e he hb=>?_⟩;have h4:ops[i]? =some ops[i]:=Array.getElem?_eq_getElem h1;rw[h4]at h3;simp only[Option.map_some,Option.getD_some]at h3;have h5:ops.toList.getD i default=ops[i]:=by simp[List.getD,h1]
  rw[h5]at he;rw[Array.all_eq_true']at h3;have:=h3 e (by simpa using he);simpa[hb]using this
 have hready:∀{listed:Array Bool}{i:Nat},i<ops.toList.length→listed.getD i true=false→(∀e,e∈(ops.toList.getD i default).after.toList→Region.binds .any e=true→listed.getD e.on false=true)→i∈Region.ready .any ops listed:=by
  intro listed i h1 h2 h3;have h1':i<ops.size:=by simpa using h1
  simp only[Region.ready,List.mem_filter,List.mem_range,Bool.and_eq_true,Bool.not_eq_true'];refine⟨h1',h2,?_⟩;have h4:ops[i]? =some ops[i]:=Array.getElem?_eq_getElem h1';have h5:ops.toList.getD i default=ops[i]:=by simp[List.getD,h1']
  rw[h4];simp only[Option.map_some,Option.getD_some];rw[Array.all_eq_true'];intro e he;rw[h5]at h3;cases hb:Region.binds .any e with
  |false=>rfl
  |true=>simp[h3 e (by simpa using he) hb]
 induction fuel with
 |zero=>
  intro s listed L m fr H a w hl hs hx hI hd r;have:L=[]:=List.eq_nil_of_length_eq_zero hl;subst this;cases hs;exact hn m fr H a w hd r
 |succ fuel ih=>
  intro s listed L m fr H a w hl hs hbx hI hd r;rcases hs with⟨_,hnil⟩|⟨i,s,rfl,hi,hs'⟩
  ·exfalso
   have hall:∀i,i<ops.toList.length→listed.getD i true=true:=by
    intro i;induction i using Nat.strongRecOn with
    |ind i ihi=>
     intro hi;by_cases hc:listed.getD i true=true
     ·exact hc
     ·exfalso
      have:i∈Region.ready .any ops listed:=by
       refine hready hi (by simpa using hc) fun e he hb=>?_
       have h1:=hlt i hi e he hb;have h2:=ihi e.on h1 (by omega);have h3:e.on<listed.size:=by rw[hI.sz];omega
       simp only[Array.getD_eq_getD_getElem?,Array.getElem?_eq_getElem h3,Option.getD_some]at h2⊢;exact h2
      rw[hnil]at this;cases this
   cases L with
   |nil=>cases hl
   |cons x L=>
    have h1:=hI.un x (List.mem_cons_self ..);rw[hall x.i (hI.wf x (List.mem_cons_self ..)).1]at h1;cases h1
  ·obtain⟨h1,h2,h3⟩:=hrd hi
   obtain⟨x,hx,hxi⟩:∃x,x∈L∧x.i=i:=by
    rcases hI.cov i h1 with h|h
    ·rw[h2]at h;cases h
    ·exact h
   obtain⟨A,B,rfl⟩:=List.append_of_mem hx;subst hxi;obtain⟨p1,p2,p3⟩:=zxc hI.pairs
   have hanc:∀y,(bs.getD x.i 0).testBit y=true→listed.getD y false=true:=by
    intro y hy;rw[hbs _ h1]at hy;rcases zxk hy with⟨e,he,hb,h|h⟩|⟨p,hp,hpx,h⟩
    ·rw[←h];exact h3 e he hb
    ·have hlt':=hlt _ h1 e he hb;refine hI.cl e.on (by omega) ?_ y h;have h4:=h3 e he hb;have h5:e.on<listed.size:=by rw[hI.sz];omega
     simp only[Array.getD_eq_getD_getElem?,Array.getElem?_eq_getElem h5,Option.getD_some]at h4⊢;exact h4
    ·have hl1:listed.getD p.1 true=true:=by
      rcases hbx p hp with h4|h4
      ·exact h4
      ·simp only[bef]at h4;rw[if_neg fun e=>(hxs p hp).2 (e.symm.trans hpx.symm),if_pos hpx.symm]at h4;cases h4
     rcases h with h|h
     ·rw[←h];have h5:p.1<listed.size:=by rw[hI.sz];exact(hxs p hp).1
      simp only[Array.getD_eq_getD_getElem?,Array.getElem?_eq_getElem h5,Option.getD_some]at hl1⊢;exact hl1
     ·exact hI.cl p.1 (hxs p hp).1 hl1 y h
   have hA:∀y,y∈A→zkR y (ops.toList.getD y.i default) x (ops.toList.getD x.i default)=true:=by
    intro y hy;have h5:=hI.un y (List.mem_append_left _ hy);rcases(p1 y hy).2 with h|h
    ·exfalso;have h4:=hanc _ h;have h6:y.i<listed.size:=by rw[hI.sz];exact(hI.wf y (List.mem_append_left _ hy)).1
     simp only[Array.getD_eq_getD_getElem?,Array.getElem?_eq_getElem h6,Option.getD_some]at h4 h5;rw[h5]at h4;cases h4
    ·exact h
   have hd':dops P c.nt (ops.toList.map (·.dst)) ((x,ops.toList.getD x.i default)::((A++B).map fun x=>(x,ops.toList.getD x.i default))) K fr H:=by
    rw[List.map_append,List.map_cons]at hd;rw[List.map_append];refine zKw (hI.wf x hx).2 ?_ hd;intro p hp;obtain⟨y,hy,rfl⟩:=List.mem_map.1 hp;exact⟨(hI.wf y (List.mem_append_left _ hy)).2,hA y hy⟩
   have hbx':∀p,p∈xs→(listed.setIfInBounds x.i true).getD p.1 true=true∨bef p.1 p.2 s=true:=by
    intro p hp;have hxs:x.i<listed.size:=by rw[hI.sz];exact h1
    rw[zj7 _ _ _ _ hxs];by_cases hpx:p.1=x.i
    ·exact .inl (if_pos hpx)
    ·rw[if_neg hpx];rcases hbx p hp with h4|h4
     ·exact .inl h4
     ·simp only[bef]at h4;rw[if_neg fun e=>hpx e.symm]at h4;split at h4
      ·cases h4
      ·exact .inr h4
   have hI':Inv ops.toList bs (listed.setIfInBounds x.i true) (A++B):=by
    have hxs:x.i<listed.size:=by rw[hI.sz];exact h1
    have hsub:∀y,y∈A++B→y∈A++x::B∧y.i≠x.i:=by
     intro y hy;rcases List.mem_append.1 hy with hy|hy
     ·exact⟨List.mem_append_left _ hy,fun e=>(p1 y hy).1 e.symm⟩
     ·exact⟨List.mem_append_right _ (List.mem_cons_of_mem _ hy),p2 y hy⟩
    refine⟨by simpa using hI.sz,p3,fun y hy=>hI.wf y (hsub y hy).1,fun i hi'=>?_,fun y hy=>?_,fun j hj hlj y hy=>?_⟩
    ·rw[zj7 _ _ _ _ hxs];by_cases hix:i=x.i
     ·left;rw[if_pos hix]
     ·rw[if_neg hix];rcases hI.cov i hi' with h|⟨y,hy,hyi⟩
      ·exact .inl h
      ·right;rcases List.mem_append.1 hy with hy|hy
       ·exact⟨y,List.mem_append_left _ hy,hyi⟩
       ·rcases List.mem_cons.1 hy with rfl|hy
        ·exact absurd hyi.symm hix
        ·exact⟨y,List.mem_append_right _ hy,hyi⟩
    ·rw[zj7 _ _ _ _ hxs,if_neg (hsub y hy).2];exact hI.un y (hsub y hy).1
    ·rw[zj7 _ _ _ _ hxs]at hlj⊢;by_cases hyx:y=x.i
     ·rw[if_pos hyx]
     ·rw[if_neg hyx];by_cases hjx:j=x.i
      ·subst hjx;exact hanc y hy
      ·rw[if_neg hjx]at hlj;exact hI.cl j hj hlj y hy
   have h1':x.i<ops.size:=by simpa using h1
   have hget:ops[x.i]? =some (ops.toList.getD x.i default):=by
    rw[Array.getElem?_eq_getElem h1'];simp[List.getD,h1']
   rw[wpOps_cons];unfold wpOp;rw[hget];simp only
   have hs:=zwl (Q:=Q) (next:=wpOps P ops Q s) hd'.2 r fun m' fr' H' a' w' hk r'=>
    ih (by simp at hl⊢;omega) hs' hbx' hI' hk.2 r'
   split
   ·rename_i hw;rw[if_pos hw]at hs;exact .inl hs
   ·rename_i hw;rw[if_neg hw]at hs;exact hs
theorem zs9{id:Nat}{m:Mu}{fr:FR}{H:AH}{a:Act}{w:World}(h:zqN P c.nt ops K fr H)(r:RelS c m fr H a w)
(hn:∀m' fr' H' a' w',K fr' H'→RelS c m' fr' H' a' w'→Q .normal a' w'):(Code.region id ops true).wp P Q a w:=by
 obtain⟨hmix,n,hX⟩:=h;refine wp_region_draw fun t=>?_
 have key:∀(s:List Nat),Sch ops ops.size (Array.replicate ops.size false) s→∀n xs,zjM (fun D=>dops P c.nt (ops.toList.map (·.dst)) (D.map fun x=>(x,ops.toList.getD x.i default)) K fr H) ops.toList n xs→(∀p,p∈xs→bef p.1 p.2 s=true)→wpOps P ops Q s a {w with drawn:=w.drawn+1}:=by
  intro s hs n;induction n with
  |zero=>
   rintro xs ⟨D,hD,hd⟩ hx;simp only[zjv,Bool.and_eq_true,List.all_eq_true,List.mem_range]at hD;obtain⟨⟨⟨⟨hlen,hxs⟩,hall⟩,hwf⟩,hpairs⟩:=hD;refine zsU (xs:=xs) (bs:=if xs.isEmpty then zsv ops.toList []else itX ops.toList xs 6 (zsv ops.toList [])) (fun p hp=>⟨Nat.le_of_ble_eq_true (hxs p hp).1,by simpa using(hxs p hp).2⟩) (fun j hj=>?_) (fun j hj e he hb=>?_) hn ops.size (L:=D) (by simpa using hlen) hs (fun p hp=>.inr (hx p hp)) ?_ hd r.drew
   ·simpa using(hall j hj).1.1
   ·exact by have:=(hall j hj).1.2 e he;rw[hb]at this;simpa using this
   ·refine⟨by simp,hpairs,fun x hx=>⟨Nat.le_of_ble_eq_true (hwf x hx).1,zD1 (hwf x hx).2⟩,fun i hi=>?_,fun x hx=>?_,fun j hj hlj=>?_⟩
    ·right;have:=(hall i hi).2;simpa[List.mem_map]using this
    ·have h1:x.i<ops.toList.length:=Nat.le_of_ble_eq_true (hwf x hx).1;have h1':x.i<ops.size:=by simpa using h1
     simp[Array.getD_eq_getD_getElem?,h1']
    ·have h1':j<ops.size:=by simpa using hj
     simp[Array.getD_eq_getD_getElem?,h1']at hlj
  |succ n ih=>
   rintro xs ⟨a,b,hab,h1,h2⟩ hx;rcases zBy hab s with h|h
   ·exact ih _ h1 fun p hp=>by
     rcases List.mem_cons.1 hp with rfl|hp
     ·exact h
     ·exact hx p hp
   ·exact ih _ h2 fun p hp=>by
     rcases List.mem_cons.1 hp with rfl|hp
     ·exact h
     ·exact hx p hp
 unfold Region.schedule;rw[hmix,Bool.true_or,if_pos rfl];exact key _ (zBh _ _ _) n [] hX fun p hp=>by cases hp
end
def awp(P:Program)(nt:Nat):Code→(Exit→FR→AH→Prop)→FR→AH→Prop
 | .skip,Q=>Q .normal
 | .region _ ops draw,Q=>if draw=true then zqN P nt ops (Q .normal)else zeh P nt (ops.toList.map (·.dst)) ops.toList (Q .normal)
 | .seq x y,Q=>awp P nt x (zh1 (awp P nt y Q) Q)
 | .cond c t e,Q=>fun fr H=>match rdv fr c with
  |some (.bool b)=>if b=true then awp P nt t Q fr H else awp P nt e Q fr H
  |_=>False
 | .block id b,Q=>awp P nt b (ziV id Q)
 | .loop b,Q=>fun fr H=>∃n,zkC (awp P nt b) Q n fr H
 | .exit id,Q=>Q (.exit id)
 | .ret,Q=>Q .ret
 |_,_=>fun _ _=>False
def ziA(P:Program)(fr:FR):ResultVar→Option Value
 | .tmp t=>match fr t with
  | .v x=>some x
  |_=>none
 | .cell t ty=>match fr t with
  | .loc cells=>zfr P ty (some cells)
  |_=>none
def zhv(P:Program)(fr:FR):List ResultVar→Option (List Value)
 |[]=>some []
 |x::xs=>match ziA P fr x,zhv P fr xs with
  |some v,some vs=>some (v::vs)
  |_,_=>none
def zke:List Value→Value
 |[v]=>v
 |vs=>.tuple vs.toArray
inductive It where
 |code (c:Code)
 |ops (pre:List (Option Tmp)) (l:List Oper)
 |dops (pre:List (Option Tmp)) (l:List (DE×Oper))
 |chk (p:AH→Prop)
 |blk (id:Nat)
def zkk(P:Program)(nt:Nat):List It→(Exit→FR→AH→Prop)→Exit→FR→AH→Prop
 |[],Q,e=>Q e
 |it::k,Q,e=>match e with
  | .normal=>match it with
   | .code c=>awp P nt c (zkk P nt k Q)
   | .ops pre l=>zeh P nt pre l (zkk P nt k Q .normal)
   | .dops pre l=>dops P nt pre l (zkk P nt k Q .normal)
   | .chk p=>fun fr H=>p H∧zkk P nt k Q .normal fr H
   | .blk _=>zkk P nt k Q .normal
  | .exit id=>match it with
   | .blk i=>if id=i then zkk P nt k Q .normal else zkk P nt k Q (.exit id)
   |_=>zkk P nt k Q (.exit id)
  |e=>zkk P nt k Q e
def aw(P:Program)(nt:Nat)(k:List It)(Q:Exit→FR→AH→Prop)(fr:FR)(H:AH):Prop:=zkk P nt k Q .normal fr H
def zmc(P:Program)(rs:Array ResultVar)(R:Value→AH→Prop):Exit→FR→AH→Prop
 | .normal,fr,H| .ret,fr,H=>match zhv P fr rs.toList with
  |some vs=>R (zke vs) H
  |none=>False
 |_,_,_=>False
end Go.Am
