import Derived.Test.YtnojafnlicbhpaaGreatAmK
import Derived.Orders
open Bool renaming false→aa,true→Z
open Option renaming none→ae,some→J
set_option linter.defProp false
namespace Go.Am
def f6:=@List.mem_cons
def gP:=@List.mem_singleton
def jU:=@List.mem_map
def kj:=@List.mem_append
def kP:=@List.mem_range
def mA:=@Option.map_some
def nb:=@Nat.mod_lt
def oB:=@List.mem_cons_of_mem
def qJ:=@List.mem_cons_self
def qK:=@Bool.not_eq_true'
def th:=@List.mem_append_left
def uI:=@Bool.or_eq_true
def uJ:=@List.cons_append
def xK:=@Bool.not_true
def zA:=@List.mem_append_right
def Ex:=@Iff.rfl
def Ey:=@List.flatMap_cons
def V1:=@Bool.and_self
def V2:=@Nat.testBit_or
def a1g:=@List.mem_flatMap
def a1h:=@Bool.false_or
def a1i:=@Bool.false_and
def a1j:=@List.singleton_append
def a1k:=@Nat.le_of_ble_eq_true
def a5s:=@Nat.testBit_two_pow
set_option linter.unusedVariables false
set_option linter.unusedSimpArgs false
def fJ(H H':AH):Prop:=H.n<=H'.n/\∀id k,H.b id=J k->H'.b id=J k
theorem fJ.refl(H:AH):fJ H H:=⟨cB _,λ_ _ h=>h⟩
theorem fJ.trans{a b c:AH}(h:fJ a b)(h':fJ b c):fJ a c:=⟨gD h.1 h'.1,λid k hk=>h'.2 id k (h.2 id k hk)⟩
section
variable {P:Program}
variable{H:AH}{K K2:FR->AH->Prop}{fr:FR}{nt:Nat}{o:Oper}{pre:List (Option Tmp)}
theorem Az(hk:∀fr H,K fr H->K2 fr H){d:Option Tmp}{x:FV}(h:bC nt K d x fr H):bC nt K2 d x fr H:=by
 unfold bC at h⊢;split at h
 ·split at h
  ·rename_i hd;rw[aD hd];exact hk _ _ h
  ·cases h
 ·exact hk _ _ h
theorem T6(hk:∀fr H,K fr H->K2 fr H)(h:dE P nt o K fr H):dE P nt o K2 fr H:=by
 unfold dE at h⊢;split at h
 ·split at h
  ·split at h
   ·exact Az hk h
   ·cases h
  ·cases h
 ·cases h
theorem WD(hk:∀fr H,K fr H->K2 fr H){t:TypeId}{x i:Operand}{d:Option Tmp}:UP P nt t x i d K fr H->UP P nt t x i d K2 fr H:=
 λ⟨u,l,es,cs,k,j,e,g,r,a1,a2,a3,a4,a5,a6,a7⟩=>⟨u,l,es,cs,k,j,e,g,r,a1,a2,a3,a4,a5,a6,Az hk a7⟩
theorem Dd(hk:∀fr H,K fr H->K2 fr H)(h:aP P nt o K fr H):aP P nt o K2 fr H:=by
 unfold aP at h⊢;split at h
 all_goals
  repeat' first
   |exact Az hk h
   |exact hk _ _ h
   |exact T6 hk h
   |exact h.imp (T6 hk) λ⟨h1,l,ns,h2,h3⟩=>⟨h1,l,ns,h2,Az hk h3⟩
   |exact h.imp (Az hk) (WD hk)
   |exact h.imp (λx=>x) (WD hk)
   |exact h.mono (λ_ _ hh=>Az hk hh)
   |exact h.elim
   |rw[aD (by assumption)]
   |rw[aB (by assumption)]
   |split at h
theorem SL(hk:∀fr H,K fr H->K2 fr H)(h:nm P nt pre o K fr H):nm P nt pre o K2 fr H:=by
 unfold nm at h⊢;split at h
 ·exact Dd hk h
 ·split at h
  ·split at h
   ·rename_i e;rw[aD e];exact Dd hk h
   ·rename_i e;rw[aB e];exact Az hk h
  ·cases h
theorem zsB(hk:∀fr H,K fr H->K2 fr H)(h:fC P nt o K fr H):fC P nt o K2 fr H:=by
 unfold fC at h⊢;split at h
 case h_3=>
  refine⟨h.1,?_⟩;have h:=h.2;split at h
  ·exact λb=>hk _ _ (h b)
  ·exact hk _ _ h
  ·exact h.elim
 case h_4=>
  split at h
  ·exact⟨h.1,h.2.1,h.2.2.1,hk _ _ h.2.2.2⟩
  ·exact h.elim
 case h_5=>
  repeat' first
   |exact h.imp (λh=>⟨h.1,hk _ _ h.2⟩) λ⟨h1,sv,v,H2,h2,h3,h4⟩=>⟨h1,sv,v,H2,h2,h3,hk _ _ h4⟩
   |exact h.elim
   |split at h
 case h_6=>
  repeat' first
   |(obtain⟨h1,cs,h2,h3⟩:=h;exact⟨h1,cs,h2,hk _ _ h3⟩)
   |exact h.elim
   |split at h
 case h_7=>
  obtain⟨ts,ak,H',h1,h2⟩:=h;exact⟨ts,ak,H',h1,T6 hk h2⟩
 case h_8=>
  obtain⟨s,cells,h1,h2⟩:=h;exact⟨s,cells,h1,hk _ _ h2⟩
 case h_9=>
  refine⟨h.1,?_⟩;have h:=h.2;split at h
  ·obtain⟨ns,h1,h2⟩:=h;exact⟨ns,h1,hk _ _ h2⟩
  ·exact h.elim
 all_goals
  repeat' first
   |exact⟨h.1,h.2.1,hk _ _ h.2.2⟩
   |exact h.elim
   |split at h
theorem zxK(hk:∀fr H,K fr H->K2 fr H)(h:BI P nt pre o K fr H):BI P nt pre o K2 fr H:=by
 unfold BI at h⊢;split at h
 ·exact h.imp (Dd hk) (zsB hk)
 ·split at h
  ·split at h
   ·rename_i e;rw[aD e];exact h.imp (Dd hk) (zsB hk)
   ·rename_i e;rw[aB e];exact Az hk h
  ·cases h
theorem zx0 :∀{l:List Oper}{K K2:FR->AH->Prop}(_:∀fr H,K fr H->K2 fr H) {fr:FR}{H:AH},nr P nt pre l K fr H->nr P nt pre l K2 fr H:=by
 intro l;induction l with
 |nil=>intro K K2 hk fr H h;exact hk _ _ h
 |cons o l ih=>intro K K2 hk fr H h;exact zxK (λ_ _ h'=>ih hk h') h
end
def dZ:Operand->List Nat
 | .tmp t=>[t]
 |_=>[]
def DF(o:Op):List Nat:=o.operands.toList.flatMap dZ
def UK(pre:List (Option Tmp))(o:Oper):List Nat:=
 match o.guard with
 |some (j,_)=>match pre[j]? with
  |some (J d)=>[d]
  |_=>[]
 |none=>[]
def sls(pre:List (Option Tmp))(o:Oper):List Nat:=DF o.op++UK pre o
def Ns:Op->Bool
 | .call ⟨.value _,_,_⟩| .call ⟨.builtin .copy,_,_⟩=>Z
 |_=>aa
def S7:Op->Bool
 | .makeSlice .. =>Z
 |_=>aa
def sj:Op->Bool
 | .call ⟨.builtin .append,_,_⟩=>Z
 |_=>aa
def rV:Op->Bool
 | .store .. =>Z
 |_=>aa
def D9:Op->Bool
 | .load .. =>Z
 |_=>aa
def Ct:Op->Option Nat
 | .load _ (.tmp t)=>J t
 | .store _ (.tmp t) _=>J t
 |_=>ae
structure DE where
 i:Nat
 sl:List Nat
 rg:List Nat
 mr:Option Nat
 ls:Bool
 ext:Bool
 wr:Bool
def DE.ex(e:DE):Bool:=e.ext&& !e.wr
def Xz:FV->Bool
 | .loc _| .lp .. | .skip=>Z
 |_=>aa
def uG(rg:List Nat)(ls:Bool)(t:Nat):FV->Bool
 | .v (.tuple a)=> !a.toList.isEmpty
 | .v _=>Z
 | .skip=>Z
 | .loc _=>rg.contains t
 | .lp s _=>rg.contains s
 | .ls .. =>ls
def Fw(fr:FR):Option Nat->Bool
 |some t=>Xz (fr t)
 |none=>Z
def xY(rg:List Nat)(ls:Bool)(fr:FR):List Nat->Bool
 |[]=>Z
 |t::r=>uG rg ls t (fr t)&&xY rg ls fr r
def jV(e:DE)(fr:FR):Bool:=xY e.rg e.ls fr e.sl&&Fw fr e.mr
def SF(pre:List (Option Tmp))(e:DE)(o:Oper):Bool:=
 (sls pre o).all (e.sl.contains ·)&&(!e.ls||e.ext||sj o.op)&&(!(Ns o.op||S7 o.op)||e.ext)&&
 (!(D9 o.op||rV o.op)||e.rg.isEmpty||(e.mr.isSome&&e.mr==Ct o.op))&&(e.mr.toList.all (e.sl.contains ·))
def UV(e:DE)(o:Oper):Bool:= !e.ext&& !sj o.op&& !rV o.op
def KY(xs ys:List Nat):Bool:=xs.all λx=> !ys.contains x
def Gt(x:DE)(p:Oper)(y:DE)(q:Oper):Bool:=
 UV x p&&KY p.dst.toList (y.sl++y.rg++q.dst.toList)&&KY q.dst.toList (x.sl++x.rg)&&
 (!(D9 p.op&&x.rg.isEmpty)||(!sj q.op&&(!rV q.op|| !y.rg.isEmpty||y.ext)))&&
 (!rV q.op||KY y.rg (x.sl++x.rg))&&(!(D9 p.op&&x.rg.isEmpty)|| !y.wr)
def wj(P:Program)(nt:Nat)(pre:List (Option Tmp))(e:DE)(o:Oper)(K:FR->AH->Prop)(fr:FR)(H:AH):Prop:=
 jV e fr=Z/\nm P nt pre o (λak H'=>(e.ex=Z->fJ H H')/\K ak H') fr H
def iF(P:Program)(nt:Nat)(pre:List (Option Tmp)):List (DE×Oper)->(FR->AH->Prop)->FR->AH->Prop
 |[],K,fr,H=>K fr H
 |(e,o)::r,K,fr,H=>wj P nt pre e o (iF P nt pre r K) fr H
inductive ck where
 |no
 |put (d:Nat) (x:FV)
 |loc (d:Nat) (cells:List Value)
def ck.bB:ck->FR->FR
 | .no,fr=>fr
 | .put d x,fr=>fr.put d x
 | .loc d cs,fr=>fr.fh d cs
def ck.dst:ck->List Nat
 | .no=>[]
 | .put d _| .loc d _=>[d]
def ck.of:Option Tmp->FV->ck
 |some d,x=>.put d x
 |none,_=>.no
structure pT (e:DE) (f g:FR):Prop where
 s:∀t,t∈e.sl->f t=g t
 r:∀s,s∈e.rg->∀cs,f s=.loc cs↔g s=.loc cs
section
variable {P:Program}{nt:Nat}{pre:List (Option Tmp)}{e:DE}{f g fr:FR}{H:AH}{U:ck}
variable{ls:Bool}{rg:List Nat}{x:Operand}
theorem ER :∀{l:List Nat},xY rg ls fr l=Z->∀t,t∈l->uG rg ls t (fr t)=Z:=by
 intro l;induction l with
 |nil=>intro _ t h;cases h
 |cons a l ih=>
  intro h t ht;simp only[xY,bK]at h;rcases f6.1 ht with rfl|ht
  ·exact h.1
  ·exact ih h.2 t ht
theorem nA(h:pT e f g)(hx:∀t,t∈dZ x->t∈e.sl):be f x=be g x:=by
 cases x with
 |tmp t=>simp only[be,h.s t (hx t (by simp[dZ]))]
 |_=>rfl
theorem PX{t s o:Nat}(h:uG rg ls t (.lp s o)=Z):s∈rg:=by simpa[uG]using h
theorem ZS{t:Nat}{cs:List Value}(h:uG rg ls t (.loc cs)=Z):t∈rg:=by simpa[uG]using h
theorem rz(h:pT e f g)(hg:jV e g=Z)(hx:∀t,t∈dZ x->t∈e.sl):bO f x=bO g x:=by
 cases x with
 |tmp t=>
  have ht:=hx t (by simp[dZ]);simp only[bO,h.s t ht];cases A5:g t with
  |lp s o=>
   have hs:s∈e.rg:=by
    simp only[jV,bK]at hg;have:=ER hg.1 t ht;rw[A5]at this;exact PX this
   simp only;cases CV:g s with
   |loc cs=>rw[(h.r s hs cs).2 CV]
   |_=>
    cases jL:f s with
    |loc cs=>rw[(h.r s hs cs).1 jL]at CV;cases CV
    |_=>rfl
  |_=>rfl
 |const c=>simp only[bO];rw[nA h hx]
 |func c=>simp only[bO];rw[nA h hx]
 |global c=>simp only[bO];rw[nA h hx]
theorem Br(hg:jV e g=Z)(hx:∀t,t∈dZ x->t∈e.sl){s o:Nat}(h:bO g x=J (.lp s o)):s∈e.rg/\∃cs,g s=.loc cs:=by
 simp only[jV,bK]at hg;cases x with
 |tmp t=>
  have hk:=ER hg.1 t (hx t (by simp[dZ]));simp only[bO]at h;cases A5:g t with
  |lp s' o'=>
   rw[A5]at h hk;simp only at h;cases CV:g s' with
   |loc cs=>rw[CV]at h;cases h;exact⟨PX hk,cs,CV⟩
   |_=>rw[CV]at h;cases h
  |loc cs=>rw[A5]at h hk;cases h;exact⟨ZS hk,cs,A5⟩
  |v x=>rw[A5]at h;cases h
  |skip=>rw[A5]at h;cases h
  |ls=>rw[A5]at h;cases h
 |const c=>simp only[bO,be]at h;split at h<;>cases h
 |func c=>simp only[bO,be]at h;cases h
 |global c=>simp only[bO,be]at h;cases h
end
section
variable {P:Program}{nt:Nat}{pre:List (Option Tmp)}{e:DE}{f g fr:FR}{H:AH}{U:ck}
variable{o:Oper}{x:FV}
theorem I5{dd:Nat}(hd:dd∉U.dst)(hx:∀s o,x=.lp s o->s∉U.dst):(U.bB fr).put dd x=U.bB (fr.put dd x):=by
 cases U with
 |no=>rfl
 |put d y=>
  funext t;simp only[ck.dst,gP]at hd;simp only[ck.bB,FR.put];by_cases h1:t=dd
  ·subst h1;simp[hd]
  ·simp[h1]
 |loc d cs=>
  funext t;simp only[ck.dst,gP]at hd hx;simp only[ck.bB,FR.put,FR.fh];by_cases h1:t=dd
  ·subst h1;simp only[e9,aB hd];cases x with
   |lp s o=>simp only[lD];rw[aB (hx s o rfl)]
   |_=>rfl
  ·simp[h1]
theorem zv6(a b:Nat)(v:FV):lD a (lD b v)=lD b (lD a v):=by
 cases v with
 |lp s o=>
  have k:∀c,lD c (.lp s o)=if s=c then jv else .lp s o:=λ_=>rfl
  by_cases h1:s=a<;>by_cases h2:s=b
  ·rw[k b,aD h2,k a,aD h1];rfl
  ·rw[k b,aB h2,k a,aD h1];rfl
  ·rw[k b,aD h2,k a,aB h1,k b,aD h2];rfl
  ·rw[k b,aB h2,k a,aB h1,k b,aB h2]
 |_=>rfl
theorem Xl{dd:Nat}{cs:List Value}(hd:dd∉U.dst)(hU:∀d' s o,U=.put d' (.lp s o)->s≠dd):(U.bB fr).fh dd cs=U.bB (fr.fh dd cs):=by
 cases U with
 |no=>rfl
 |put d y=>
  funext t;simp only[ck.dst,gP]at hd;simp only[ck.bB,FR.put,FR.fh];by_cases h1:t=dd
  ·subst h1;simp[hd]
  ·by_cases h2:t=d
   ·subst h2;simp only[h1,e9,my];cases y with
    |lp s o=>simp only[lD];rw[aB (hU _ s o rfl)]
    |_=>rfl
   ·simp[h1,h2]
 |loc d c2=>
  funext t;simp only[ck.dst,gP]at hd;simp only[ck.bB,FR.fh];by_cases h1:t=dd
  ·subst h1;simp[hd,lD]
  ·by_cases h2:t=d
   ·subst h2;simp[h1,lD]
   ·simp only[h1,h2,my];exact zv6 ..
theorem Tv{s:Nat}(h:s∉U.dst)(cs:List Value):U.bB fr s=.loc cs↔fr s=.loc cs:=by
 cases U with
 |no=>exact Ex
 |put d y=>
  simp only[ck.dst,gP]at h;simp[ck.bB,FR.put,h]
 |loc d c2=>
  simp only[ck.dst,gP]at h;simp only[ck.bB,FR.fh,aB h];cases fr s with
  |lp s' o'=>simp only[lD];split<;>simp[jv]
  |_=>simp[lD]
theorem zBx(hs:∀t,t∈e.sl->t∉U.dst)(hr:∀s,s∈e.rg->s∉U.dst)(hc:jV e (U.bB fr)=Z):pT e (U.bB fr) fr:=by
 refine⟨λt ht=>?_,λs hs cs=>Tv (hr s hs) cs⟩;simp only[jV,bK]at hc;have hk:=ER hc.1 t ht;have hd:=hs t ht;cases U with
 |no=>rfl
 |put d y=>
  simp only[ck.dst,gP]at hd;simp[ck.bB,FR.put,hd]
 |loc d c2=>
  simp only[ck.dst,gP]at hd;simp only[ck.bB,FR.fh,aB hd]at hk⊢;cases hf:fr t with
  |lp s o=>
   rw[hf]at hk;simp only[lD]at hk⊢;split
   ·rename_i h;rw[aD h]at hk;simp[jv,uG]at hk
   ·rfl
  |_=>rfl
theorem zru(h:pT e f g)(hr:∀t,e.mr=J t->t∈e.sl):jV e f=jV e g:=by
 have h1:∀l:List Nat,(∀t,t∈l->t∈e.sl)->xY e.rg e.ls f l=xY e.rg e.ls g l:=by
  intro l;induction l with
  |nil=>intro _;rfl
  |cons a l ih=>intro hl;simp only[xY];rw[h.s a (hl a (qJ ..)),ih λt ht=>hl t (oB _ ht)]
 simp only[jV];rw[h1 _ λt ht=>ht];congr 1;cases hm:e.mr with
 |none=>rfl
 |some t=>simp only[Fw];rw[h.s t (hr t hm)]
structure mV (e:DE) (o:Oper) (fr:FR) (H:AH) (f:FR) (h:AH):Prop where
 s:∀t,t∉o.dst.toList->(rV o.op=Z->t∉e.rg)->(∀l es cs,fr t≠.ls l es cs)->(∀d k,d∈o.dst.toList->fr t≠.lp d k)->f t=fr t
 r:∀s,s∉o.dst.toList->(rV o.op=Z->s∉e.rg)->∀cs,f s=.loc cs↔fr s=.loc cs
 h:e.ext=aa->sj o.op=aa->(rV o.op=Z->e.rg≠[])->h=H
theorem oK{K R:FR->AH->Prop}{d:Option Tmp}(h:bC nt K d x (U.bB fr) H)(hd:∀t,t∈d.toList->t∉U.dst)(hx:∀s o,x=.lp s o->s∉U.dst)
(hP:R ((ck.of d x).bB fr) H):bC nt (λf h=>K (U.bB f) h/\R f h) d x fr H:=by
 cases d with
 |none=>exact⟨h,hP⟩
 |some d=>
  simp only[bC]at h⊢;split at h
  ·rename_i hlt;rw[aD hlt];exact⟨by rw[<-I5 (hd d (by simp)) hx];exact h,hP⟩
  ·cases h
theorem xy :mV e o fr H ((ck.of o.dst x).bB fr) H:=by
 cases hd:o.dst with
 |none=>exact⟨λ_ _ _ _ _=>rfl,λ_ _ _ _=>Ex,λ_ _ _=>rfl⟩
 |some d=>
  refine⟨λt h1 _ _ _=>?_,λs h1 _ cs=>?_,λ_ _ _=>rfl⟩
  ·rw[hd]at h1;simp at h1;simp[ck.of,ck.bB,FR.put,h1]
  ·rw[hd]at h1;simp at h1;simp[ck.of,ck.bB,FR.put,h1]
theorem zuS{d:Nat}{cs:List Value}(hd:o.dst=J d):mV e o fr H (fr.fh d cs) H:=by
 refine⟨λt h1 _ _ h4=>?_,λs h1 _ c2=>?_,λ_ _ _=>rfl⟩
 ·rw[hd]at h1;simp at h1;simp only[FR.fh,aB h1];cases hf:fr t with
  |lp s k=>
   simp only[lD];rw[aB];intro e;subst e;exact h4 _ k (by simp[hd]) hf
  |_=>rfl
 ·rw[hd]at h1;simp at h1;simp only[FR.fh,aB h1];cases hf:fr s with
  |lp s k=>simp only[lD];split<;>simp[jv]
  |_=>simp[lD]
theorem Wu{x:Operand}(hx:∀t,t∈dZ x->t∉U.dst/\U.bB fr t=fr t):bg (U.bB fr) H x=(bg fr H x).map λr=>(r.1,U.bB r.2.1,r.2.2):=by
 cases x with
 |tmp t=>
  obtain⟨h1,h2⟩:=hx t (by simp[dZ]);simp only[bg,h2];cases hf:fr t with
  |v y=>rfl
  |ls l es cs=>simp only[mA];rw[I5 h1 (by intro s o hh;cases hh)]
  |_=>rfl
 |const c=>simp only[bg,be];split<;>rfl
 |func c=>rfl
 |global c=>rfl
theorem qQ{x:Operand}{v:Value}{f:FR}{h:AH}(hm:bg fr H x=J (v,f,h)):(∀t,(∀l es cs,fr t≠.ls l es cs)->f t=fr t)/\(∀t,f t=fr t\/((∃l es cs,fr t=.ls l es cs)/\∃y,f t=.v y))/\
 ((∀t,t∈dZ x->∀l es cs,fr t≠.ls l es cs)->f=fr/\h=H/\be fr x=J v):=by
 have key:∀y:Operand,bg fr H y=(be fr y).map (λv=>(v,fr,H))->bg fr H y=J (v,f,h)->f=fr/\h=H/\be fr y=J v:=by
  intro y e hm;rw[e]at hm;cases hr:be fr y with
  |none=>rw[hr]at hm;cases hm
  |some w=>rw[hr]at hm;cases hm;exact⟨rfl,rfl,rfl⟩
 cases x with
 |tmp t=>
  simp only[bg]at hm;cases hf:fr t with
  |v y=>
   rw[hf]at hm;cases hm;exact⟨λ_ _=>rfl,λ_=>.inl rfl,λ_=>⟨rfl,rfl,by simp[be,hf]⟩⟩
  |ls l es cs=>
   rw[hf]at hm;cases hm;refine⟨λu hu=>?_,λu=>?_,λhn=>absurd hf (hn t (by simp[dZ]) l es cs)⟩
   ·have:u≠t:=by rintro rfl;exact hu l es cs hf
    simp[FR.put,this]
   ·by_cases M2:u=t
    ·subst M2;exact .inr ⟨⟨l,es,cs,hf⟩,_,kc ..⟩
    ·exact .inl (by simp[FR.put,M2])
  |skip=>rw[hf]at hm;cases hm
  |loc cs=>rw[hf]at hm;cases hm
  |lp s k=>rw[hf]at hm;cases hm
 |const c=>
  obtain⟨rfl,rfl,h3⟩:=key (.const c) rfl hm;exact⟨λ_ _=>rfl,λ_=>.inl rfl,λ_=>⟨rfl,rfl,h3⟩⟩
 |func c=>
  obtain⟨rfl,rfl,h3⟩:=key (.func c) rfl hm;exact⟨λ_ _=>rfl,λ_=>.inl rfl,λ_=>⟨rfl,rfl,h3⟩⟩
 |global c=>
  obtain⟨rfl,rfl,h3⟩:=key (.global c) rfl hm;exact⟨λ_ _=>rfl,λ_=>.inl rfl,λ_=>⟨rfl,rfl,h3⟩⟩
theorem zzO:∀{xs:List Operand}{fr:FR}{H:AH}(_:∀t,t∈xs.flatMap dZ->t∉U.dst/\U.bB fr t=fr t),cr (U.bB fr) H xs=(cr fr H xs).map λr=>(r.1,U.bB r.2.1,r.2.2):=by
 intro xs;induction xs with
 |nil=>intro fr H _;rfl
 |cons x xs ih=>
  intro fr H h;have hx:∀t,t∈dZ x->t∉U.dst/\U.bB fr t=fr t:=λt ht=>h t (by simp only[Ey,kj];exact .inl ht)
  simp only[cr,Wu hx];cases hm:bg fr H x with
  |none=>rfl
  |some r=>
   obtain⟨v,f,h'⟩:=r;simp only[mA];have hf:=qQ hm
   have iP:∀t,t∈xs.flatMap dZ->t∉U.dst/\U.bB f t=f t:=by
    intro t ht;have hu:=h t (by simp only[Ey,kj];exact .inr ht);refine⟨hu.1,?_⟩;rcases hf.2.1 t with e|⟨_,y,e⟩
    ·
     have h1:=hu.2;cases U with
     |no=>rfl
     |put d z=>simp only[ck.dst,gP]at hu;simp[ck.bB,FR.put,hu.1]
     |loc d z=>
      simp only[ck.dst,gP]at hu;simp only[ck.bB,FR.fh,aB hu.1]at h1⊢;rw[e];exact h1
    ·cases U with
     |no=>rfl
     |put d z=>simp only[ck.dst,gP]at hu;simp[ck.bB,FR.put,hu.1]
     |loc d z=>
      simp only[ck.dst,gP]at hu;simp only[ck.bB,FR.fh,aB hu.1];rw[e];rfl
   rw[ih iP];cases cr f h' xs<;>rfl
theorem zI:∀{xs:List Operand}{vs:List Value}{fr f:FR}{H h:AH}(_:cr fr H xs=J (vs,f,h)),(∀t,(∀l es cs,fr t≠.ls l es cs)->f t=fr t)/\(∀t,f t=fr t\/((∃l es cs,fr t=.ls l es cs)/\∃y,f t=.v y))/\
 ((∀t,t∈xs.flatMap dZ->∀l es cs,fr t≠.ls l es cs)->f=fr/\h=H):=by
 intro xs;induction xs with
 |nil=>intro vs fr f H h hm;cases hm;exact⟨λ_ _=>rfl,λ_=>.inl rfl,λ_=>⟨rfl,rfl⟩⟩
 |cons x xs ih=>
  intro vs fr f H h hm;simp only[cr]at hm;cases h1:bg fr H x with
  |none=>rw[h1]at hm;cases hm
  |some r=>
   obtain⟨v,f1,ki⟩:=r;rw[h1]at hm;simp only at hm;cases h2:cr f1 ki xs with
   |none=>rw[h2]at hm;cases hm
   |some r=>
    obtain⟨IW,f2,Np⟩:=r;rw[h2]at hm;cases hm;have m1:=qQ h1;have m2:=ih h2;refine⟨λt ht=>?_,λt=>?_,λhn=>?_⟩
    ·have e1:=m1.1 t ht;rw[m2.1 t (by rw[e1];exact ht),e1]
    ·rcases m2.2.1 t with e2|⟨⟨l,es,cs,e2⟩,y,e3⟩
     ·rcases m1.2.1 t with e1|⟨a,y,e1⟩
      ·exact .inl (e2.trans e1)
      ·exact .inr ⟨a,y,e2.trans e1⟩
     ·rcases m1.2.1 t with e1|⟨a,_⟩
      ·exact .inr ⟨⟨l,es,cs,e1▸e2⟩,y,e3⟩
      ·exact .inr ⟨a,y,e3⟩
    ·obtain⟨rfl,rfl,_⟩:=m1.2.2 λt ht=>hn t (by simp only[Ey,kj];exact .inl ht)
     exact m2.2.2 λt ht=>hn t (by simp only[Ey,kj];exact .inr ht)
theorem AL{f:FR}{h h':AH}(h1:∀t,(∀l es cs,fr t≠.ls l es cs)->f t=fr t)(h2:∀t,f t=fr t\/((∃l es cs,fr t=.ls l es cs)/\∃y,f t=.v y))
(h3:e.ext=aa->sj o.op=aa->(rV o.op=Z->e.rg≠[])->h'=H):mV e o fr H ((ck.of o.dst x).bB f) h':=by
 have hp:=xy (e:=e) (fr:=f) (H:=h) (o:=o) (x:=x);refine⟨λt a b c d=>?_,λs a b cs=>?_,h3⟩
 ·rw[hp.s t a b (by rw[h1 t c];exact c) (by rw[h1 t c];exact d)];exact h1 t c
 ·rw[hp.r s a b cs];rcases h2 s with e|⟨⟨l,es,cc,e⟩,y,e'⟩
  ·rw[e]
  ·rw[e,e'];simp
end
set_option linter.unusedSectionVars false
structure WF (pre:List (Option Tmp)) (e:DE) (o:Oper):Prop where
 sl:∀t,t∈sls pre o->t∈e.sl
 ls:e.ls=Z->e.ext=Z\/sj o.op=Z
 call:Ns o.op=Z\/S7 o.op=Z->e.ext=Z
 mrs:∀t,e.mr=J t->t∈e.sl
 mr:D9 o.op=Z\/rV o.op=Z->e.rg=[]\/∃t,e.mr=J t/\Ct o.op=J t
structure Qt (U:ck) (e:DE) (o:Oper):Prop where
 sl:∀t,t∈e.sl->t∉U.dst
 rg:∀s,s∈e.rg->s∉U.dst
 ds:∀t,t∈o.dst.toList->t∉U.dst
 lp:∀d s k,U=.put d (.lp s k)->s∉o.dst.toList
theorem zF1{pre:List (Option Tmp)}{e:DE}{o:Oper}(h:SF pre e o=Z):WF pre e o:=by
 simp only[SF,bK]at h;obtain⟨⟨⟨⟨h1,h2⟩,h3⟩,h4⟩,h5⟩:=h;refine⟨λt ht=>?_,λhl=>?_,λhc=>?_,λt ht=>by simpa[ht]using h5,λhm=>?_⟩
 ·rw[bm]at h1;simpa using h1 t ht
 ·simpa[hl]using h2
 ·rcases hc with hc|hc<;>simpa[hc]using h3
 ·have:(e.rg.isEmpty||(e.mr.isSome&&e.mr==Ct o.op))=Z:=by
   rcases hm with hm|hm<;>simpa[hm]using h4
  simp only[uI,bK]at this;rcases this with h|⟨h5,h6⟩
  ·left;simpa using h
  ·right;obtain⟨t,ht⟩:=HG.1 h5;exact⟨t,ht,by rw[ht]at h6;exact(beq_iff_eq.1 h6).symm⟩
section
variable {P:Program}{nt:Nat}{pre:List (Option Tmp)}{e:DE}{o:Oper}{f g fr:FR}{H:AH}{U:ck}{K:FR->AH->Prop}
variable{t:TypeId}{x:Operand}{xs:List Operand}
theorem WF.of(hW:WF pre e o)(hx:x∈o.op.operands.toList):∀t,t∈dZ x->t∈e.sl:=
 λt ht=>hW.sl t (th _ (a1g.2 ⟨x,hx,ht⟩))
theorem WF.eU(hW:WF pre e o)(hx:∀x,x∈xs->x∈o.op.operands.toList):∀t,t∈xs.flatMap dZ->t∈e.sl:=λt ht=>by
 obtain⟨x,h1,h2⟩:=a1g.1 ht;exact hW.of (hx x h1) t h2
theorem Y4{op:Op}(h:gG op=J xs):∀x,x∈xs->x∈op.operands.toList:=by
 cases op<;>simp only[gG,aT,reduceCtorEq]at h<;>try (subst h;simp[Op.operands])
 ·rename_i c;obtain⟨callee,args,ts⟩:=c;cases callee with
  |builtin b=>cases b<;>simp only[aT,reduceCtorEq]at h<;>(subst h;intro x hx;simp[Op.operands,Call.operands];simpa using hx)
  |_=>simp at h
theorem zN(hW:WF pre e o)(hc:jV e fr=Z)(h1:e.ext=aa)(h2:sj o.op=aa):∀t,t∈e.sl->∀l es cs,fr t≠.ls l es cs:=by
 intro t ht l es cs hf;simp only[jV,bK]at hc;have hk:=ER hc.1 t ht;rw[hf]at hk;rcases hW.ls hk with h|h
 ·rw[h1]at h;cases h
 ·rw[h2]at h;cases h
variable (hA:Qt U e o) (hW:WF pre e o) (hS:pT e (U.bB fr) fr) (hc:jV e fr=Z)
include hA hW hS hc
theorem zzk{a:Operand}(ho:o.op=.load t a)(h:aP P nt o K (U.bB fr) H):aP P nt o (λf h=>K (U.bB f) h/\mV e o fr H f h) fr H:=by
 have hx:∀t,t∈dZ a->t∈e.sl:=hW.of (by simp[ho,Op.operands])
 have e1:mN (U.bB fr) H a=mN fr H a:=by
  unfold mN;rw[rz hS hc hx];cases hr:bO fr a with
  |none=>rfl
  |some v=>
   cases v with
   |lp s k=>
    obtain⟨hs,cs,dX⟩:=Br hc hx hr;simp only;rw[dX,(hS.r s hs cs).2 dX]
   |v x=>
    cases x<;>try rfl
    rename_i p;cases p with
    |none=>rfl
    |some p=>obtain⟨i,k,sp⟩:=p;cases sp<;>rfl
   |_=>rfl
 simp only[aP,ho,e1]at h⊢;split at h
 ·rename_i v hv;exact oK h hA.ds (λs k hh=>by cases hh) xy
 ·cases h
omit hA hS in
theorem Zr{s k:Nat}(h:iN P fr o.op=J (.lp s k)):s∈e.rg:=by
 cases ho:o.op<;>rw[ho]at h<;>simp only[iN,reduceCtorEq]at h
 ·rename_i x;have hx:∀t,t∈dZ x->t∈e.sl:=hW.of (by simp[ho,Op.operands]);split at h
  ·cases h
  ·rename_i hr;cases h;exact(Br hc hx hr).1
  ·cases h
 ·rename_i t x f;have hx:∀t,t∈dZ x->t∈e.sl:=hW.of (by simp[ho,Op.operands]);split at h
  ·rename_i hr;cases h;exact(Br hc hx hr).1
  ·cases h
  ·cases h
 ·rename_i t x i;have hx:∀t,t∈dZ x->t∈e.sl:=hW.of (by simp[ho,Op.operands])
  repeat' split at h
  all_goals first
   |(cases h;done)
   |(cases h;exact(Br hc hx (by assumption)).1)
omit hA in
theorem zzG:iN P (U.bB fr) o.op=iN P fr o.op:=by
 cases ho:o.op<;>simp only[iN]
 ·rename_i x;rw[rz hS hc (hW.of (by simp[ho,Op.operands]))]
 ·rename_i t x f;rw[rz hS hc (hW.of (by simp[ho,Op.operands]))]
 ·rename_i t x i;rw[rz hS hc (hW.of (by simp[ho,Op.operands])),nA hS (hW.of (by simp[ho,Op.operands]))]
theorem Uf(h:match iN P (U.bB fr) o.op with|some x=>bC nt K o.dst x (U.bB fr) H|none=>False):
 match iN P fr o.op with|some x=>bC nt (λf h=>K (U.bB f) h/\mV e o fr H f h) o.dst x fr H|none=>False:=by
 rw[zzG hW hS hc]at h;cases hv:iN P fr o.op with
 |none=>rw[hv]at h;cases h
 |some y=>
  rw[hv]at h;exact oK h hA.ds (λs k hh=>hA.rg s (Zr hW hc (by rw[hv,hh]))) xy
theorem zxC(ho:o.op=.alloc t)(h:aP P nt o K (U.bB fr) H):aP P nt o (λf h=>K (U.bB f) h/\mV e o fr H f h) fr H:=by
 simp only[aP,ho]at h⊢;split at h
 ·rename_i z d hz hd;split at h
  ·rename_i lZ;rw[aD lZ];refine⟨?_,zuS hd⟩;rw[<-Xl (hA.ds d (by simp[hd])) (λd' s k hu hs=>hA.lp d' s k hu (by simp[hd,hs]))];exact h
  ·cases h
 ·cases h
theorem zBX(ho:o.op=.box t x)(h:aP P nt o K (U.bB fr) H):aP P nt o (λf h=>K (U.bB f) h/\mV e o fr H f h) fr H:=by
 simp only[aP,ho,nA hS (hW.of (x:=x) (by simp[ho,Op.operands]))]at h⊢;split at h
 ·rename_i z v d hz hv hd;split at h
  ·rename_i lZ;rw[aD lZ];refine⟨?_,zuS hd⟩;rw[<-Xl (hA.ds d (by simp[hd])) (λd' s k hu hs=>hA.lp d' s k hu (by simp[hd,hs]))];exact h
  ·cases h
 ·cases h
theorem VH(hx:∀x,x∈xs->x∈o.op.operands.toList):cr (U.bB fr) H xs=(cr fr H xs).map λr=>(r.1,U.bB r.2.1,r.2.2):=
 zzO λt ht=>have h:=hW.eU hx t ht;⟨hA.sl t h,hS.s t h⟩
theorem YZ(hx:x∈o.op.operands.toList):bg (U.bB fr) H x=(bg fr H x).map λr=>(r.1,U.bB r.2.1,r.2.2):=
 Wu λt ht=>have h:=hW.of hx t ht;⟨hA.sl t h,hS.s t h⟩
omit hA hS in
theorem OH{vs:List Value}{f:FR}{h:AH}(hx:∀x,x∈xs->x∈o.op.operands.toList)(hm:cr fr H xs=J (vs,f,h)):e.ext=aa->sj o.op=aa->f=fr/\h=H:=
 λh1 h2=>(zI hm).2.2 λt ht=>zN hW hc h1 h2 t (hW.eU hx t ht)
omit hA hS in
theorem zAl{v:Value}{f:FR}{h:AH}(hx:x∈o.op.operands.toList)(hm:bg fr H x=J (v,f,h)):e.ext=aa->sj o.op=aa->f=fr/\h=H:=
 λh1 h2=>let r:=(qQ hm).2.2 λt ht=>zN hW hc h1 h2 t (hW.of hx t ht);⟨r.1,r.2.1⟩
theorem Li(h:dE P nt o K (U.bB fr) H):dE P nt o (λf h=>K (U.bB f) h/\mV e o fr H f h) fr H:=by
 unfold dE at h⊢;cases hp:gG o.op with
 |none=>rw[hp]at h;cases h
 |some xs=>
  have hm:=Y4 hp;rw[hp]at h;simp only[VH hA hW hS hc hm]at h⊢;cases hx:cr fr H xs with
  |none=>rw[hx]at h;cases h
  |some r=>
   obtain⟨vs,f,h'⟩:=r;rw[hx]at h;simp only[mA]at h⊢;cases hv:eY P o.op vs with
   |none=>rw[hv]at h;cases h
   |some v=>
    rw[hv]at h;exact oK h hA.ds (λs k hh=>by cases hh) (AL (h:=h') (zI hx).1 (zI hx).2.1 λh1 h2 _=>(OH hW hc hm hx h1 h2).2)
end
section
variable {P:Program}{nt:Nat}{pre:List (Option Tmp)}{e:DE}{o:Oper}{f g fr:FR}{H:AH}{U:ck}{K:FR->AH->Prop}
variable (hA:Qt U e o) (hW:WF pre e o) (hS:pT e (U.bB fr) fr) (hc:jV e fr=Z)
include hA hW hS hc
variable{args:Array Operand}{t:TypeId}{ts:Array TypeId}
theorem zq1{len:Nat}{ps:Array (Nat×Operand)}(ho:o.op=.buildSlice t len ps)(h:aP P nt o K (U.bB fr) H):aP P nt o (λf h=>K (U.bB f) h/\mV e o fr H f h) fr H:=by
 have hm:∀x,x∈ps.toList.map (·.2)->x∈o.op.operands.toList:=by intro x hx;simpa[ho,Op.operands]using hx
 simp only[aP,ho,VH hA hW hS hc hm]at h⊢;cases he:cW P t with
 |none=>rw[he]at h;cases h
 |some el=>
  cases hd:o.dst with
  |none=>rw[he,hd]at h;cases h
  |some d=>
   rw[he,hd]at h;cases hx:cr fr H (ps.toList.map (·.2))with
   |none=>rw[hx]at h;cases h
   |some r=>
    obtain⟨vs,f,h'⟩:=r;rw[hx]at h;simp only[mA]at h⊢;cases hz:cF P el with
    |none=>rw[hz]at h;cases h
    |some z=>
     obtain⟨gg,es,b,z⟩:=z;rw[hz]at h;simp only at h⊢;split at h
     ·rename_i lZ;rw[aD lZ];cases hf:jJ (λi=>J (i*es,es)) ((ps.toList.map (·.1)).zip vs) ((List.replicate len z).flatten)with
      |none=>rw[hf]at h;cases h
      |some cs=>
       rw[hf]at h;simp only at h⊢;refine⟨?_,?_⟩
       ·rw[<-I5 (hA.ds d (by simp[hd])) (by intro s k hh;cases hh)];exact h
       ·have:=AL (e:=e) (o:=o) (h:=h') (x:=.ls len es cs) (zI hx).1 (zI hx).2.1 λh1 h2 _=>(OH hW hc hm hx h1 h2).2
        rw[hd]at this;exact this
     ·cases h
theorem zzH{c a b:Operand}(ho:o.op=.pick c a b)(h:aP P nt o K (U.bB fr) H):aP P nt o (λf h=>K (U.bB f) h/\mV e o fr H f h) fr H:=by
 simp only[aP,ho,nA hS (hW.of (x:=c) (by simp[ho,Op.operands])),nA hS (hW.of (x:=a) (by simp[ho,Op.operands])),nA hS (hW.of (x:=b) (by simp[ho,Op.operands]))]at h⊢;split at h
 ·split at h
  ·exact oK h hA.ds (λs k hh=>by cases hh) xy
  ·cases h
 ·split at h
  ·exact oK h hA.ds (λs k hh=>by cases hh) xy
  ·cases h
 ·cases h
theorem zsH{x:Operand}(ho:o.op=.move x\/o.op=.assign x)(h:aP P nt o K (U.bB fr) H):aP P nt o (λf h=>K (U.bB f) h/\mV e o fr H f h) fr H:=by
 have hx:∀t,t∈dZ x->t∈e.sl:=hW.of (by rcases ho with ho|ho<;>simp[ho,Op.operands])
 have he:∀K fr,aP P nt o K fr H=match bO fr x with
  |some (.lp s off)=>bC nt K o.dst (.lp s off) fr H
  |_=>dE P nt o K fr H:=by intro K fr;rcases ho with ho|ho<;>(simp only[aP,ho];rfl)
 rw[he]at h⊢;simp only[rz hS hc hx]at h⊢;split at h
 ·rename_i s k hr;exact oK h hA.ds (λs' k' hh=>by cases hh;exact hA.rg s (Br hc hx hr).1) xy
 ·exact Li hA hW hS hc h
theorem zrF{l c:Operand}(ho:o.op=.makeSlice t l c)(h:aP P nt o K (U.bB fr) H):aP P nt o (λf h=>K (U.bB f) h/\mV e o fr H f h) fr H:=by
 simp only[aP,ho,nA hS (hW.of (x:=l) (by simp[ho,Op.operands])),nA hS (hW.of (x:=c) (by simp[ho,Op.operands]))]at h⊢;split at h
 ·split at h
  ·split at h
   ·rename_i lZ;rw[aD lZ];have he:=hW.call (.inr (by simp[ho,S7]));refine oK h hA.ds (λs k hh=>by cases hh) ?_;have:=xy (e:=e) (o:=o) (fr:=fr) (H:=H) (x:=.v (.slice (J ⟨H.n,0,J ‹Nat›⟩) 0 0));refine AL (h:=H) (λ_ _=>rfl) (λ_=>.inl rfl) ?_;intro h1;rw[he]at h1;cases h1
   ·cases h
  ·cases h
 ·cases h
theorem zy1{fn:Operand}(ho:o.op=.call ⟨.value fn,args,ts⟩)(h:aP P nt o K (U.bB fr) H):aP P nt o (λf h=>K (U.bB f) h/\mV e o fr H f h) fr H:=by
 have hm:∀x,x∈args.toList->x∈o.op.operands.toList:=by intro x hx;simp[ho,Op.operands,Call.operands];exact .inr (by simpa using hx)
 simp only[aP,ho,VH hA hW hS hc hm]at h⊢;cases hx:cr fr H args.toList with
 |none=>rw[hx]at h;cases h
 |some r=>
  obtain⟨vs,f,h'⟩:=r;rw[hx]at h;simp only[mA]at h⊢
  have Lj:∀t,t∈dZ fn->U.bB f t=f t:=by
   intro t ht;have hO:=hW.of (x:=fn) (by simp[ho,Op.operands,Call.operands]) t ht;have h1:=hS.s t hO;have h2:=hA.sl t hO;rcases(zI hx).2.1 t with e1|⟨_,y,e1⟩
   ·cases U with
    |no=>rfl
    |put d z=>simp only[ck.dst,gP]at h2;simp[ck.bB,FR.put,h2]
    |loc d z=>
     simp only[ck.dst,gP]at h2;simp only[ck.bB,FR.fh,aB h2]at h1⊢;rw[e1];exact h1
   ·cases U with
    |no=>rfl
    |put d z=>simp only[ck.dst,gP]at h2;simp[ck.bB,FR.put,h2]
    |loc d z=>
     simp only[ck.dst,gP]at h2;simp only[ck.bB,FR.fh,aB h2];rw[e1];rfl
  have hr:be (U.bB f) fn=be f fn:=by
   cases fn with
   |tmp t=>simp only[be,Lj t (by simp[dZ])]
   |_=>rfl
  rw[hr]at h;split at h
  ·rename_i g' first kv hg
   exact h.mono λv ph hk=>oK hk hA.ds (λs k hh=>by cases hh) (AL (h:=h') (zI hx).1 (zI hx).2.1 λh1=>by rw[hW.call (.inl (by simp[ho,Ns]))]at h1;cases h1)
  ·cases h
omit hA hW hS hc in
theorem zte{t:Nat}{f:FR}(h2:t∉U.dst)(h1:U.bB fr t=fr t)(e1:f t=fr t\/((∃l es cs,fr t=.ls l es cs)/\∃y,f t=.v y)):U.bB f t=f t:=by
 rcases e1 with e1|⟨_,y,e1⟩
 ·cases U with
  |no=>rfl
  |put d z=>simp only[ck.dst,gP]at h2;simp[ck.bB,FR.put,h2]
  |loc d z=>
   simp only[ck.dst,gP]at h2;simp only[ck.bB,FR.fh,aB h2]at h1⊢;rw[e1];exact h1
 ·cases U with
  |no=>rfl
  |put d z=>simp only[ck.dst,gP]at h2;simp[ck.bB,FR.put,h2]
  |loc d z=>
   simp only[ck.dst,gP]at h2;simp only[ck.bB,FR.fh,aB h2];rw[e1];rfl
theorem zwh(ho:o.op=.call ⟨.builtin .append,args,ts⟩)(h:aP P nt o K (U.bB fr) H):aP P nt o (λf h=>K (U.bB f) h/\mV e o fr H f h) fr H:=by
 simp only[aP,ho]at h⊢;split at h
 ·rename_i s x t t' ha ht;split at h
  ·rename_i yo;rw[aD yo];have OG:s∈o.op.operands.toList:=by rw[ho];simp[Op.operands,Call.operands,ha]
   have gY:x∈o.op.operands.toList:=by rw[ho];simp[Op.operands,Call.operands,ha]
   simp only[YZ hA hW hS hc OG]at h;cases hx:bg fr H s with
   |none=>rw[hx]at h;cases h
   |some r=>
    obtain⟨sv,f,h'⟩:=r;rw[hx]at h;simp only[mA]at h⊢
    have je:iD P t (U.bB f) h' x=iD P t f h' x:=by
     cases x with
     |tmp u=>
      have hO:=hW.of gY u (by simp[dZ]);have:=zte (hA.sl u hO) (hS.s u hO) ((qQ hx).2.1 u);simp only[iD,this]
     |const c=>
      cases c<;>try rfl
      rename_i p n m;cases p<;>cases n<;>cases m<;>rfl
     |_=>rfl
    rw[je]at h;split at h
    ·rename_i new mm hn;split at h
     ·rename_i v ph hv;exact oK h hA.ds (λs k hh=>by cases hh) (AL (h:=h') (qQ hx).1 (qQ hx).2.1 λ_ h2=>by rw[ho]at h2;simp[sj]at h2)
     ·cases h
    ·cases h
  ·cases h
 ·cases h
theorem zzr(ho:o.op=.call ⟨.builtin .copy,args,ts⟩)(h:aP P nt o K (U.bB fr) H):aP P nt o (λf h=>K (U.bB f) h/\mV e o fr H f h) fr H:=by
 simp only[aP,ho]at h⊢;split at h
 ·rename_i x y t t' ha ht;have gY:x∈o.op.operands.toList:=by rw[ho];simp[Op.operands,Call.operands,ha]
  have hmy:y∈o.op.operands.toList:=by rw[ho];simp[Op.operands,Call.operands,ha]
  have je:iD P t (U.bB fr) H y=iD P t fr H y:=by
   cases y with
   |tmp u=>simp only[iD,hS.s u (hW.of hmy u (by simp[dZ]))]
   |const c=>
    cases c<;>try rfl
    rename_i p n m;cases p<;>cases n<;>cases m<;>rfl
   |_=>rfl
  rw[je,nA hS (hW.of gY)]at h;split at h
  ·split at h
   ·split at h
    ·rename_i lZ;rw[aD lZ];split at h
     ·exact oK h hA.ds (λs k hh=>by cases hh) (AL (h:=H) (λ_ _=>rfl) (λ_=>.inl rfl) λh1=>by rw[hW.call (.inl (by simp[ho,Ns]))]at h1;cases h1)
     ·cases h
    ·cases h
   ·cases h
  ·cases h
 ·cases h
theorem zw4{a x:Operand}(ho:o.op=.store t a x)(h:aP P nt o K (U.bB fr) H):aP P nt o (λf h=>K (U.bB f) h/\mV e o fr H f h) fr H:=by
 have gY:x∈o.op.operands.toList:=by simp[ho,Op.operands]
 have hma:a∈o.op.operands.toList:=by simp[ho,Op.operands]
 simp only[aP,ho,YZ hA hW hS hc gY]at h⊢;cases hx:bg fr H x with
 |none=>rw[hx]at h;cases h
 |some r=>
  obtain⟨v,f,h'⟩:=r;rw[hx]at h;simp only[mA]at h⊢;cases hz:cF P t with
  |none=>rw[hz]at h;cases h
  |some z=>
   obtain⟨gg,sz,rr⟩:=z;rw[hz]at h;simp only at h⊢;split at h
   ·rename_i lZ;rw[aD lZ]
    have ny:bO (U.bB f) a=bO f a/\∀s k,bO f a=J (.lp s k)->s∈e.rg/\U.bB f s=f s:=by
     have Ee:∀s,s∈e.rg->∀cs,f s=.loc cs->U.bB f s=.loc cs:=λs hs cs hf=>(Tv (hA.rg s hs) cs).2 hf
     have a3i:∀s,s∈e.rg->∀cs,U.bB f s=.loc cs->f s=.loc cs:=λs hs cs hf=>(Tv (hA.rg s hs) cs).1 hf
     cases a with
     |tmp u=>
      have hO:=hW.of hma u (by simp[dZ]);have hu:=zte (hA.sl u hO) (hS.s u hO) ((qQ hx).2.1 u)
      have hk:∀y,f u=y->Xz y=Z->uG e.rg e.ls u y=Z:=by
       intro y hy hr;simp only[jV,bK]at hc;have:=ER hc.1 u hO;rcases(qQ hx).2.1 u with e1|⟨_,w,e1⟩
       ·rw[<-hy,e1];exact this
       ·rw[hy]at e1;subst e1;cases hr
      simp only[bO,hu];cases n5:f u with
      |lp s k=>
       have hs:s∈e.rg:=PX (hk _ n5 rfl);simp only;constructor
       ·cases jL:f s with
        |loc cs=>rw[Ee s hs cs jL]
        |_=>
         cases Rl:U.bB f s with
         |loc cs=>rw[a3i s hs cs Rl]at jL;cases jL
         |_=>rfl
       ·intro s' k' hh;cases jL:f s with
        |loc cs=>rw[jL]at hh;cases hh;exact⟨hs,by rw[Ee s hs cs jL,jL]⟩
        |_=>rw[jL]at hh;cases hh
      |loc cs=>
       refine⟨rfl,λs' k' hh=>?_⟩;cases hh;have hs:u∈e.rg:=ZS (hk _ n5 rfl);exact⟨hs,by rw[Ee u hs cs n5,n5]⟩
      |v y=>exact⟨rfl,λ_ _ hh=>by cases hh⟩
      |skip=>exact⟨rfl,λ_ _ hh=>by cases hh⟩
      |ls=>exact⟨rfl,λ_ _ hh=>by cases hh⟩
     |const c=>exact⟨rfl,λs k hh=>by simp only[bO,be]at hh;split at hh<;>cases hh⟩
     |func c=>exact⟨rfl,λs k hh=>by simp only[bO,be]at hh;cases hh⟩
     |global c=>exact⟨rfl,λs k hh=>by simp only[bO,be]at hh;cases hh⟩
    rw[ny.1]at h;have PU:rV o.op=Z:=by rw[ho];rfl
    have hap:sj o.op=aa:=by rw[ho];rfl
    split at h
    ·rename_i s k hr;obtain⟨hs,Rl⟩:=ny.2 s k hr;rw[Rl]at h;cases jL:f s with
     |loc cells=>
      rw[jL]at h;simp only at h⊢;cases hp:gq cells k v.cells.toList with
      |none=>rw[hp]at h;cases h
      |some cs=>
       rw[hp]at h;simp only at h⊢;rw[I5 (hA.rg s hs) (by intro a b hh;cases hh)]at h;refine oK h hA.ds (λs k hh=>by cases hh) ?_;have Tx:=xy (e:=e) (fr:=f.put s (.loc cs)) (H:=h') (o:=o) (x:=.skip);have hm:=qQ hx;refine⟨λt a b c d=>?_,λs2 a b c2=>?_,λh1 h2 _=>(zAl hW hc gY hx h1 h2).2⟩
       ·have hne:t≠s:=by rintro rfl;exact b PU hs
        have e1:=hm.1 t c;rw[Tx.s t a b (by simp only[FR.put,aB hne];rw[e1];exact c) (by simp only[FR.put,aB hne];rw[e1];exact d)];simp only[FR.put,aB hne];exact e1
       ·have hne:s2≠s:=by rintro rfl;exact b PU hs
        rw[Tx.r s2 a b c2];simp only[FR.put,aB hne];rcases hm.2.1 s2 with e1|⟨⟨l,es,cc,e1⟩,y,e2⟩
        ·rw[e1]
        ·rw[e1,e2];simp
     |_=>rw[jL]at h;cases h
    ·rename_i id off hr;split at h
     ·rename_i b hb;split at h
      ·rename_i bc;rw[aD bc];split at h
       ·rename_i cs dX;refine oK h hA.ds (λs k hh=>by cases hh) (AL (h:=h') (qQ hx).1 (qQ hx).2.1 λh1 h2 h3=>?_);exfalso;rcases hW.mr (.inr PU)with h4|⟨u,h4,h5⟩
        ·exact h3 PU h4
        ·
         simp only[jV,bK]at hc;have h6:=hc.2;rw[h4]at h6;simp only[Fw]at h6;rw[ho]at h5;cases a with
         |tmp u'=>
          simp only[Ct,aT]at h5;subst h5;obtain⟨rfl,rfl⟩:=zAl hW (by simp only[jV,bK];exact hc) gY hx h1 h2;simp only[bO]at hr;cases n5:f u' with
          |loc cs=>rw[n5]at hr;cases hr
          |lp s k=>rw[n5]at hr;simp only at hr;split at hr<;>cases hr
          |v y=>rw[n5]at h6;cases h6
          |skip=>rw[n5]at hr;cases hr
          |ls=>rw[n5]at h6;cases h6
         |_=>simp[Ct]at h5
       ·cases h
      ·cases h
     ·cases h
    ·cases h
   ·cases h
theorem zuY(h:aP P nt o K (U.bB fr) H):aP P nt o (λf h=>K (U.bB f) h/\mV e o fr H f h) fr H:=by
 cases ho:o.op with
 |load=>exact zzk hA hW hS hc ho h
 |fieldAddr=>
  have:=Uf (P:=P) (nt:=nt) (K:=K) (H:=H) hA hW hS hc (by simp only[aP,ho]at h;rw[ho];exact h);simp only[aP,ho];rw[ho]at this;exact this
 |indexAddr t x i=>
  simp only[aP,ho]at h⊢;rcases h with h|⟨u,l,es,cs,k,j,el,g,z,rfl,a2,a3,a4,a5,a6,a7⟩
  ·have:=Uf (P:=P) (nt:=nt) (K:=K) (H:=H) hA hW hS hc (by rw[ho];exact h);rw[ho]at this;exact .inl this
  ·have hu:=hW.of (x:=.tmp u) (by simp[ho,Op.operands]) u (by simp[dZ]);rw[hS.s u hu]at a2;rw[nA hS (hW.of (x:=i) (by simp[ho,Op.operands]))]at a3;rw[I5 (hA.sl u hu) (by intro s k hh;cases hh)]at a7;refine .inr ⟨u,l,es,cs,k,j,el,g,z,rfl,a2,a3,a4,a5,a6,oK a7 hA.ds (λs k hh=>by cases hh) ?_⟩;refine AL (h:=H) (λt ht=>?_) (λt=>?_) λh1 h2 _=>absurd a2 (zN hW hc h1 h2 u hu l es cs)
   ·by_cases hh:t=u
    ·subst hh;exact absurd a2 (ht l es cs)
    ·simp[FR.put,hh]
   ·by_cases hh:t=u
    ·subst hh;exact .inr ⟨⟨l,es,cs,a2⟩,.slice (J ⟨H.n,0,J es⟩) l l,by simp[FR.put]⟩
    ·left;simp[FR.put,hh]
 |nilCheck=>
  have:=Uf (P:=P) (nt:=nt) (K:=K) (H:=H) hA hW hS hc (by simp only[aP,ho]at h;rw[ho];exact h);simp only[aP,ho];rw[ho]at this;exact this
 |alloc=>exact zxC hA hW hS hc ho h
 |box=>exact zBX hA hW hS hc ho h
 |buildSlice=>exact zq1 hA hW hS hc ho h
 |store=>exact zw4 hA hW hS hc ho h
 |pick=>exact zzH hA hW hS hc ho h
 |makeSlice=>exact zrF hA hW hS hc ho h
 |move=>exact zsH hA hW hS hc (.inl ho) h
 |assign=>exact zsH hA hW hS hc (.inr ho) h
 |convert s t x=>
  simp only[aP,ho]at h⊢;rcases h with h|⟨h1,l,ns,h2,h3⟩
  ·exact .inl (Li hA hW hS hc h)
  ·refine .inr ⟨h1,l,ns,?_,oK h3 hA.ds (λs k hh=>by cases hh) xy⟩;rw[<-h2];cases x with
   |tmp u=>simp only[GG,hS.s u (hW.of (x:=.tmp u) (by simp[ho,Op.operands]) u (by simp[dZ]))]
   |_=>rfl
 |call c=>
  obtain⟨callee,args,ts⟩:=c;cases callee with
  |value fn=>exact zy1 hA hW hS hc ho h
  |builtin b=>
   cases b with
   |append=>exact zwh hA hW hS hc ho h
   |copy=>exact zzr hA hW hS hc ho h
   |_=>simp only[aP,ho]at h⊢;exact Li hA hW hS hc h
  |_=>simp only[aP,ho]at h⊢;exact Li hA hW hS hc h
 |_=>simp only[aP,ho]at h⊢;exact Li hA hW hS hc h
theorem zBH(h:nm P nt pre o K (U.bB fr) H):nm P nt pre o (λf h=>K (U.bB f) h/\mV e o fr H f h) fr H:=by
 have hy:∀j b,o.guard=J (j,b)->py (U.bB fr) pre j=py fr pre j:=by
  intro j b hg;unfold py;cases hp:pre[j]? with
  |none=>rfl
  |some d=>
   cases d with
   |none=>rfl
   |some d=>
    simp only;rw[hS.s d (hW.sl d (zA _ (by simp[UK,hg,hp])))]
 unfold nm at h⊢;cases hg:o.guard with
 |none=>rw[hg]at h;exact zuY hA hW hS hc h
 |some p=>
  obtain⟨j,b⟩:=p;rw[hg]at h;simp only[hy j b hg]at h⊢;cases hv:py fr pre j with
  |none=>rw[hv]at h;cases h
  |some y=>
   rw[hv]at h;simp only at h⊢;split at h
   ·rename_i e1;rw[aD e1];exact zuY hA hW hS hc h
   ·rename_i e1;rw[aB e1];exact oK h hA.ds (λs k hh=>by cases hh) xy
end
section
variable {P:Program}{nt:Nat}{pre:List (Option Tmp)}{e:DE}{o:Oper}{f g fr:FR}{H:AH}{U:ck}{K:FR->AH->Prop}
variable{d:Option Tmp}{x:FV}
theorem zzP{x:Operand}{v:Value}{f1:FR}{h1:AH}(hs:∀t,t∈dZ x->f t=fr t)(hn:∀t,t∈dZ x->∀l es cs,fr t≠.ls l es cs)(hm:bg fr H x=J (v,f1,h1))(h:AH):bg f h x=J (v,f,h):=by
 have hr:=((qQ hm).2.2 hn).2.2;cases x with
 |tmp t=>
  simp only[be]at hr;simp only[bg,hs t (by simp[dZ])];cases hf:fr t with
  |v y=>rw[hf]at hr;cases hr;rfl
  |_=>rw[hf]at hr;cases hr
 |const c=>simp only[bg];simp only[be]at hr⊢;rw[hr];rfl
 |func c=>simp only[bg];simp only[be]at hr⊢;rw[hr];rfl
 |global c=>cases hr
theorem zrt:∀{xs:List Operand}{vs:List Value}{f1:FR}{h1:AH}(_:∀t,t∈xs.flatMap dZ->f t=fr t) (_:∀t,t∈xs.flatMap dZ->∀l es cs,fr t≠.ls l es cs) (_:cr fr H xs=J (vs,f1,h1)) (h:AH),cr f h xs=J (vs,f,h):=by
 intro xs;induction xs with
 |nil=>intro vs f1 h1 _ _ hm h;cases hm;rfl
 |cons x xs ih=>
  intro vs f1 h1 hs hn hm h;simp only[Ey,kj]at hs hn;simp only[cr]at hm;cases e1:bg fr H x with
  |none=>rw[e1]at hm;cases hm
  |some r=>
   obtain⟨v,f2,h2⟩:=r;have hx:=(qQ e1).2.2 λt ht=>hn t (.inl ht)
   obtain⟨rfl,rfl,_⟩:=hx;rw[e1]at hm;simp only at hm;cases e2:cr f2 h2 xs with
   |none=>rw[e2]at hm;cases hm
   |some r=>
    obtain⟨IW,f3,h3⟩:=r;rw[e2]at hm;cases hm;simp only[cr,zzP (λt ht=>hs t (.inl ht)) (λt ht=>hn t (.inl ht)) e1 h,ih (λt ht=>hs t (.inr ht)) (λt ht=>hn t (.inr ht)) e2 h]
theorem zAJ(h:bC nt K d x fr H):(∀t,d=J t->t<nt)/\K ((ck.of d x).bB fr) H:=by
 cases d with
 |none=>exact⟨λ_ h=>(by cases h),h⟩
 |some d=>
  simp only[bC]at h;split at h
  ·rename_i hd;exact⟨λt e=>by cases e;exact hd,h⟩
  ·cases h
theorem zBp(hd:∀t,d=J t->t<nt)(h:K ((ck.of d x).bB fr) H):bC nt K d x fr H:=by
 cases d with
 |none=>exact h
 |some d=>simp only[bC];rw[aD (hd d rfl)];exact h
theorem zCL :(ck.of d x).dst=d.toList:=by cases d<;>rfl
theorem zFd{t s k:Nat}(h:ck.of d x=.put t (.lp s k)):x=.lp s k:=by
 cases d with
 |none=>cases h
 |some d=>simp only[ck.of,ck.put.injEq]at h;exact h.2
def CF(_:Program)(_:Nat)(e:DE)(o:Oper)(fr:FR)(H:AH)(K:FR->AH->Prop)(run:(FR->AH->Prop)->FR->AH->Prop):Prop:=
 ∃U:ck,U.dst=o.dst.toList/\(∀d s k,U=.put d (.lp s k)->s∈e.rg)/\K (U.bB fr) H/\
  ∀(f:FR) (h:AH) (K':FR->AH->Prop),pT e f fr->(D9 o.op=Z->e.rg=[]->fJ H h)->K' (U.bB f) h->run K' f h
theorem zX{run:(FR->AH->Prop)->FR->AH->Prop}(hx:∀s k,x=.lp s k->s∈e.rg)(h:bC nt K o.dst x fr H)
(hr:∀(f:FR) (h:AH) (K':FR->AH->Prop),pT e f fr->(D9 o.op=Z->e.rg=[]->fJ H h)->bC nt K' o.dst x f h->run K' f h):CF P nt e o fr H K run:=by
 have:=zAJ h;exact⟨ck.of o.dst x,zCL,λd s k hu=>hx s k (zFd hu),this.2,λf h K' hS hL hK=>hr f h K' hS hL (zBp this.1 hK)⟩
variable (hW:WF pre e o) (hs:UV e o=Z) (hc:jV e fr=Z)
include hW hs hc
theorem Tz:e.ext=aa/\sj o.op=aa/\rV o.op=aa:=by
 simp only[UV,bK,qK]at hs;exact⟨hs.1.1,hs.1.2,hs.2⟩
theorem OP{xs:List Operand}(hp:gG o.op=J xs)(h:dE P nt o K fr H):CF P nt e o fr H K (dE P nt o):=by
 have hm:=Y4 hp;have dY:=Tz hW hs hc;unfold dE at h;rw[hp]at h;simp only at h;cases hx:cr fr H xs with
 |none=>rw[hx]at h;cases h
 |some r=>
  obtain⟨vs,f,h'⟩:=r;obtain⟨rfl,rfl⟩:=OH hW hc hm hx dY.1 dY.2.1;rw[hx]at h;simp only at h;cases hv:eY P o.op vs with
  |none=>rw[hv]at h;cases h
  |some v=>
   rw[hv]at h;refine zX (λs k hh=>by cases hh) h λf2 h2 K' hS _ hK=>?_
   unfold dE;rw[hp];simp only;rw[zrt (λt ht=>hS.s t (hW.eU hm t ht)) (λt ht=>zN hW hc dY.1 dY.2.1 t (hW.eU hm t ht)) hx h2];simp only[hv];exact hK
theorem zts(h:aP P nt o K fr H):CF P nt e o fr H K (aP P nt o):=by
 have dY:=Tz hW hs hc
 have tJ:(∀K fr H,aP P nt o K fr H=dE P nt o K fr H)->CF P nt e o fr H K (aP P nt o):=by
  intro he;have e1:aP P nt o=dE P nt o:=by funext K fr H;exact he K fr H
  rw[e1]at h⊢;cases hp:gG o.op with
  |none=>unfold dE at h;rw[hp]at h;cases h
  |some xs=>exact OP hW hs hc hp h
 have RC:(match iN P fr o.op with|some x=>bC nt K o.dst x fr H|none=>False)->(∀K fr H,(match iN P fr o.op with|some x=>bC nt K o.dst x fr H|none=>False)->aP P nt o K fr H)->CF P nt e o fr H K (aP P nt o):=by
  intro h he;cases hv:iN P fr o.op with
  |none=>rw[hv]at h;cases h
  |some y=>
   rw[hv]at h;refine zX (λs k hh=>Zr hW hc (by rw[hv,hh])) h λf2 h2 K' hS _ hK=>?_
   apply he
   have e2:iN P f2 o.op=iN P fr o.op:=by
    cases ho:o.op<;>simp only[iN]
    ·rename_i x;rw[rz hS hc (hW.of (by simp[ho,Op.operands]))]
    ·rename_i t x f;rw[rz hS hc (hW.of (by simp[ho,Op.operands]))]
    ·rename_i t x i;rw[rz hS hc (hW.of (by simp[ho,Op.operands])),nA hS (hW.of (by simp[ho,Op.operands]))]
   rw[e2,hv];exact hK
 cases ho:o.op with
 |load t a=>
  have hx:∀t,t∈dZ a->t∈e.sl:=hW.of (by simp[ho,Op.operands])
  have he:∀K fr H,aP P nt o K fr H=match nx P t (mN fr H a)with|some v=>bC nt K o.dst (.v v) fr H|none=>False:=by
   intro K fr H;simp only[aP,ho];rfl
  rw[he]at h;cases hv:nx P t (mN fr H a)with
  |none=>rw[hv]at h;cases h
  |some v=>
   rw[hv]at h;refine zX (λs k hh=>by cases hh) h λf2 h2 K' hS hL hK=>?_
   rw[he]
   have hne:∃cs,mN fr H a=J cs:=by
    cases hl:mN fr H a with
    |none=>rw[hl]at hv;unfold nx at hv;split at hv<;>simp_all
    |some cs=>exact⟨cs,rfl⟩
   obtain⟨cs,dX⟩:=hne
   have e2:mN f2 h2 a=mN fr H a:=by
    rw[dX];unfold mN at dX⊢;rw[rz hS hc hx];cases hr:bO fr a with
    |none=>rw[hr]at dX;cases dX
    |some y=>
     rw[hr]at dX;cases y with
     |lp s k=>
      obtain⟨h1,c2,h3⟩:=Br hc hx hr;simp only at dX⊢;rw[h3]at dX;rw[(hS.r s h1 c2).2 h3];exact dX
     |v y=>
      cases y<;>try (cases dX;done)
      rename_i p;cases p with
      |none=>cases dX
      |some p=>
       obtain⟨id,off,sp⟩:=p;cases sp with
       |some _=>cases dX
       |none=>
        have hrg:e.rg=[]:=by
         rcases hW.mr (.inl (by rw[ho];rfl))with h4|⟨u,h4,h5⟩
         ·exact h4
         ·exfalso;simp only[jV,bK]at hc;have h6:=hc.2;rw[h4]at h6;simp only[Fw]at h6;rw[ho]at h5;cases a with
          |tmp u'=>
           simp only[Ct,aT]at h5;subst h5;simp only[bO]at hr;cases n5:fr u' with
           |loc cs=>rw[n5]at hr;cases hr
           |lp s k=>rw[n5]at hr;simp only at hr;split at hr<;>cases hr
           |v y=>rw[n5]at h6;cases h6
           |skip=>rw[n5]at hr;cases hr
           |ls=>rw[n5]at h6;cases h6
          |_=>simp[Ct]at h5
        have hE:=hL (by rw[ho];rfl) hrg;simp only[AH.load,bP]at dX⊢;obtain⟨b,h7,h8⟩:=dX;exact⟨b,hE.2 id b h7,h8⟩
     |_=>cases dX
   rw[e2,hv];exact hK
 |fieldAddr=>exact RC (by simp only[aP,ho]at h;rw[ho];exact h) (λK fr H hh=>by simp only[aP,ho];rw[ho]at hh;exact hh)
 |indexAddr t x i=>
  have h1:=h;simp only[aP,ho]at h1;rcases h1 with h1|⟨u,l,es,cs,k,j,el,g,z,rfl,a2,_⟩
  ·exact RC (by rw[ho];exact h1) (λK fr H hh=>by simp only[aP,ho];rw[ho]at hh;exact .inl hh)
  ·exact absurd a2 (zN hW hc dY.1 dY.2.1 u (hW.of (x:=.tmp u) (by simp[ho,Op.operands]) u (by simp[dZ])) l es cs)
 |nilCheck=>exact RC (by simp only[aP,ho]at h;rw[ho];exact h) (λK fr H hh=>by simp only[aP,ho];rw[ho]at hh;exact hh)
 |alloc t=>
  have he:∀K fr H,aP P nt o K fr H=match cF P t,o.dst with
   |some (_,_,_,z),J d=>if d<nt/\z.all cz=Z then K (fr.fh d z) H else False
   |_,_=>False:=by intro K fr H;simp only[aP,ho];rfl
  rw[he]at h;split at h
  ·rename_i a1 a2 a3 z d hz hd;split at h
   ·rename_i lZ;refine⟨.loc d z,by simp[ck.dst,hd],λ_ _ _ hh=>(by cases hh),h,λf2 h2 K' _ _ hK=>?_⟩;rw[he,hz,hd];simp only;rw[aD lZ];exact hK
   ·cases h
  ·cases h
 |box t x=>
  have he:∀K fr H,aP P nt o K fr H=match cF P t,be fr x,o.dst with
   |some _,J v,J d=>if d<nt/\mH v=Z then K (fr.fh d v.cells.toList) H else False
   |_,_,_=>False:=by intro K fr H;simp only[aP,ho];rfl
  rw[he]at h;split at h
  ·rename_i z v d hz hv hd;split at h
   ·rename_i lZ;refine⟨.loc d v.cells.toList,by simp[ck.dst,hd],λ_ _ _ hh=>(by cases hh),h,λf2 h2 K' hS _ hK=>?_⟩;rw[he,hz,hd,nA hS (hW.of (x:=x) (by simp[ho,Op.operands])),hv];simp only;rw[aD lZ];exact hK
   ·cases h
  ·cases h
 |buildSlice t len ps=>
  have hm:∀x,x∈ps.toList.map (·.2)->x∈o.op.operands.toList:=by intro x hx;simpa[ho,Op.operands]using hx
  have he:∀K fr H,aP P nt o K fr H=match cW P t,o.dst,cr fr H (ps.toList.map (·.2))with
   |some e,J d,J (vs,ak,H')=>match cF P e with
    |some (_,es,_,z)=>if d<nt/\len*es<=2^24/\z.length=es/\es≠0/\z.all cz=Z then
     match jJ (λi=>J (i*es,es)) ((ps.toList.map (·.1)).zip vs) ((List.replicate len z).flatten)with
     |some cs=>K (ak.put d (.ls len es cs)) H'
     |none=>False
     else False
    |none=>False
   |_,_,_=>False:=by intro K fr H;simp only[aP,ho];rfl
  rw[he]at h;cases h1:cW P t with
  |none=>rw[h1]at h;cases h
  |some el=>
   cases hd:o.dst with
   |none=>rw[h1,hd]at h;cases h
   |some d=>
    cases hx:cr fr H (ps.toList.map (·.2))with
    |none=>rw[h1,hd,hx]at h;cases h
    |some r=>
     obtain⟨vs,f,h'⟩:=r;obtain⟨rfl,rfl⟩:=OH hW hc hm hx dY.1 dY.2.1;rw[h1,hd,hx]at h;simp only at h;cases hz:cF P el with
     |none=>rw[hz]at h;cases h
     |some z=>
      obtain⟨gg,es,b,z⟩:=z;rw[hz]at h;simp only at h;split at h
      ·rename_i lZ;cases hf:jJ (λi=>J (i*es,es)) ((ps.toList.map (·.1)).zip vs) ((List.replicate len z).flatten)with
       |none=>rw[hf]at h;cases h
       |some cs=>
        rw[hf]at h;refine⟨.put d (.ls len es cs),by simp[ck.dst,hd],λ_ _ _ hh=>(by cases hh),h,λf2 h2 K' hS _ hK=>?_⟩;rw[he,h1,hd,zrt (λt ht=>hS.s t (hW.eU hm t ht)) (λt ht=>zN hW hc dY.1 dY.2.1 t (hW.eU hm t ht)) hx h2];simp only[hz];rw[aD lZ,hf];exact hK
      ·cases h
 |pick c a b=>
  have vq:=λ{f2:FR}(hS:pT e f2 fr)=>nA hS (hW.of (x:=c) (by simp[ho,Op.operands]))
  have ha':=λ{f2:FR}(hS:pT e f2 fr)=>nA hS (hW.of (x:=a) (by simp[ho,Op.operands]))
  have hY:=λ{f2:FR}(hS:pT e f2 fr)=>nA hS (hW.of (x:=b) (by simp[ho,Op.operands]))
  have he:∀K fr H,aP P nt o K fr H=match be fr c with
   |some (.bool Z)=>match be fr a with
    |some v=>bC nt K o.dst (.v v) fr H
    |none=>False
   |some (.bool aa)=>match be fr b with
    |some v=>bC nt K o.dst (.v v) fr H
    |none=>False
   |_=>False:=by intro K fr H;simp only[aP,ho];rfl
  rw[he]at h;split at h
  ·rename_i RQ;split at h
   ·rename_i v hv;refine zX (λs k hh=>by cases hh) h λf2 h2 K' hS _ hK=>?_
    rw[he,vq hS,RQ];simp only;rw[ha' hS,hv];exact hK
   ·cases h
  ·rename_i RQ;split at h
   ·rename_i v hv;refine zX (λs k hh=>by cases hh) h λf2 h2 K' hS _ hK=>?_
    rw[he,vq hS,RQ];simp only;rw[hY hS,hv];exact hK
   ·cases h
  ·cases h
 |makeSlice=>exact absurd (hW.call (.inr (by rw[ho];rfl))) (by rw[dY.1];decide)
 |store=>have:=dY.2.2;rw[ho]at this;cases this
 |move x=>
  have hx:∀t,t∈dZ x->t∈e.sl:=hW.of (by simp[ho,Op.operands])
  have he:∀K fr H,aP P nt o K fr H=match bO fr x with
   |some (.lp s off)=>bC nt K o.dst (.lp s off) fr H
   |_=>dE P nt o K fr H:=by intro K fr H;simp only[aP,ho];rfl
  rw[he]at h;split at h
  ·rename_i s k hr;refine zX (λs' k' hh=>by cases hh;exact(Br hc hx hr).1) h λf2 h2 K' hS _ hK=>?_
   rw[he,rz hS hc hx,hr];exact hK
  ·rename_i hr;obtain⟨U,h1,h2,h3,h4⟩:=OP hW hs hc (xs:=[x]) (by rw[ho];rfl) h;refine⟨U,h1,h2,h3,λf2 h2 K' hS hL hK=>?_⟩;rw[he,rz hS hc hx];have:=h4 f2 h2 K' hS hL hK;split
   ·rename_i s k im;exact absurd im (hr s k)
   ·exact this
 |assign x=>
  have hx:∀t,t∈dZ x->t∈e.sl:=hW.of (by simp[ho,Op.operands])
  have he:∀K fr H,aP P nt o K fr H=match bO fr x with
   |some (.lp s off)=>bC nt K o.dst (.lp s off) fr H
   |_=>dE P nt o K fr H:=by intro K fr H;simp only[aP,ho];rfl
  rw[he]at h;split at h
  ·rename_i s k hr;refine zX (λs' k' hh=>by cases hh;exact(Br hc hx hr).1) h λf2 h2 K' hS _ hK=>?_
   rw[he,rz hS hc hx,hr];exact hK
  ·rename_i hr;obtain⟨U,h1,h2,h3,h4⟩:=OP hW hs hc (xs:=[x]) (by rw[ho];rfl) h;refine⟨U,h1,h2,h3,λf2 h2 K' hS hL hK=>?_⟩;rw[he,rz hS hc hx];have:=h4 f2 h2 K' hS hL hK;split
   ·rename_i s k im;exact absurd im (hr s k)
   ·exact this
 |call c=>
  obtain⟨callee,args,ts⟩:=c;cases callee with
  |value fn=>exact absurd (hW.call (.inl (by rw[ho];rfl))) (by rw[dY.1];decide)
  |builtin b=>
   cases b with
   |append=>have:=dY.2.1;rw[ho]at this;cases this
   |copy=>exact absurd (hW.call (.inl (by rw[ho];rfl))) (by rw[dY.1];decide)
   |_=>exact tJ (λK fr H=>by simp only[aP,ho])
  |_=>exact tJ (λK fr H=>by simp only[aP,ho])
 |convert s t x=>
  have he:∀K fr H,aP P nt o K fr H=(dE P nt o K fr H\/((uH P s=Z/\eC P t=Z/\o.dst.isSome=Z)/\∃l ns,GG fr x=J (l,ns.map (Value.int .u8))/\bC nt K o.dst (.v (.string (yd ns))) fr H)):=by intro K fr H;simp only[aP,ho]
  rw[he]at h;rcases h with h|⟨h1,l,ns,h2,h3⟩
  ·obtain⟨U,h1,h2,h3,h4⟩:=OP hW hs hc (xs:=[x]) (by rw[ho];rfl) h;refine⟨U,h1,h2,h3,λf2 h2 K' hS hL hK=>?_⟩;rw[he];exact .inl (h4 f2 h2 K' hS hL hK)
  ·exfalso;cases x with
   |tmp u=>
    simp only[GG]at h2;cases hf:fr u with
    |ls len es cells=>exact zN hW hc dY.1 dY.2.1 u (hW.of (x:=.tmp u) (by simp[ho,Op.operands]) u (by simp[dZ])) _ _ _ hf
    |_=>rw[hf]at h2;cases h2
   |_=>cases h2
 |_=>exact tJ (λK fr H=>by simp only[aP,ho])
theorem zzn(h:nm P nt pre o K fr H):CF P nt e o fr H K (nm P nt pre o):=by
 have hy:∀{f:FR}(_:pT e f fr) j b,o.guard=J (j,b)->py f pre j=py fr pre j:=by
  intro f hS j b hg;unfold py;cases hp:pre[j]? with
  |none=>rfl
  |some d=>
   cases d with
   |none=>rfl
   |some d=>
    simp only;rw[hS.s d (hW.sl d (zA _ (by simp[UK,hg,hp])))]
 unfold nm at h;cases hg:o.guard with
 |none=>
  rw[hg]at h;obtain⟨U,h1,h2,h3,h4⟩:=zts hW hs hc h;refine⟨U,h1,h2,h3,λf2 h2 K' hS hL hK=>?_⟩;unfold nm;rw[hg];exact h4 f2 h2 K' hS hL hK
 |some p=>
  obtain⟨j,b⟩:=p;rw[hg]at h;simp only at h;cases hv:py fr pre j with
  |none=>rw[hv]at h;cases h
  |some y=>
   rw[hv]at h;simp only at h;split at h
   ·rename_i e1;obtain⟨U,h1,h2,h3,h4⟩:=zts hW hs hc h;refine⟨U,h1,h2,h3,λf2 h2 K' hS hL hK=>?_⟩;unfold nm;rw[hg];simp only;rw[hy hS j b hg,hv];simp only;rw[aD e1];exact h4 f2 h2 K' hS hL hK
   ·rename_i e1;refine zX (λs k hh=>by cases hh) h λf2 h2 K' hS _ hK=>?_
    unfold nm;rw[hg];simp only;rw[hy hS j b hg,hv];simp only;rw[aB e1];exact hK
end
theorem Vz{xs ys:List Nat}(h:KY xs ys=Z):∀t,t∈xs->t∉ys:=by
 intro t ht hy;simp only[KY,bm]at h;have:=h t ht;simp[hy]at this
section
variable {P:Program}{nt:Nat}{pre:List (Option Tmp)}{K:FR->AH->Prop}{fr:FR}{H:AH}
theorem Ym{e:DE}{o:Oper}{K K2:FR->AH->Prop}(hk:∀fr H,K fr H->K2 fr H){fr:FR}{H:AH}(h:wj P nt pre e o K fr H):wj P nt pre e o K2 fr H:=
 ⟨h.1,SL (λfr H h'=>⟨h'.1,hk fr H h'.2⟩) h.2⟩
theorem zyy:∀{l:List (DE×Oper)}{K K2:FR->AH->Prop}(_:∀fr H,K fr H->K2 fr H) {fr:FR}{H:AH},iF P nt pre l K fr H->iF P nt pre l K2 fr H:=by
 intro l;induction l with
 |nil=>intro K K2 hk fr H h;exact hk _ _ h
 |cons p l ih=>intro K K2 hk fr H h;exact Ym (λ_ _ h'=>ih hk h') h
theorem swap{x y:DE}{p q:Oper}(wx:WF pre x p)(wy:WF pre y q)(hp:Gt x p y q=Z)(h:wj P nt pre x p (wj P nt pre y q K) fr H):wj P nt pre y q (wj P nt pre x p K) fr H:=by
 simp only[Gt,bK]at hp;obtain⟨⟨⟨⟨⟨h1,h2⟩,h3⟩,h4⟩,h5⟩,X5⟩:=hp;have dY:=Tz wx h1 h.1;have d1:=Vz h2;have d2:=Vz h3;simp only[kj,not_or]at d1 d2
 obtain⟨U,hd,Gz,⟨YO,hy⟩,dV⟩:CF P nt x p fr H (wj P nt pre y q K) (nm P nt pre p):=by
  refine zzn wx h1 h.1 ?_;exact SL (λ_ _ hh=>hh.2) h.2
 have hA:Qt U y q:=by
  refine⟨λt ht=>?_,λs hs=>?_,λt ht=>?_,λd s k hu hs=>(d2 s hs).2 (Gz d s k hu)⟩
  ·rw[hd];intro hh;exact(d1 t hh).1.1 ht
  ·rw[hd];intro hh;exact(d1 s hh).1.2 hs
  ·rw[hd];intro hh;exact(d1 t hh).2 ht
 have hS:pT y (U.bB fr) fr:=zBx hA.sl hA.rg YO
 have XQ:jV y fr=Z:=by
  rw[<-zru hS wy.mrs];exact YO
 refine⟨XQ,?_⟩;refine SL ?_ (zBH hA wy hS XQ hy);rintro f h' ⟨⟨hE,hK⟩,hP⟩;refine⟨hE,?_⟩
 have hSx:pT x f fr:=by
  have dO:∀t,t∈x.sl\/t∈x.rg->rV q.op=Z->t∉y.rg:=by
   intro t ht hs hr;simp only[hs,xK,a1h]at h5;have:=Vz h5 t hr;simp only[kj,not_or]at this;rcases ht with ht|ht
   ·exact this.1 ht
   ·exact this.2 ht
  refine⟨λt ht=>?_,λs hs cs=>?_⟩
  ·refine hP.s t (λhh=>(d2 t hh).1 ht) (dO t (.inl ht)) (zN wx h.1 dY.1 dY.2.1 t ht) ?_;intro d k hdq hf;have hk:=h.1;simp only[jV,bK]at hk;have hk:=ER hk.1 t ht;rw[hf]at hk;exact(d2 d hdq).2 (PX hk)
  ·exact hP.r s (λhh=>(d2 s hh).2 hs) (dO s (.inr hs)) cs
 have hL:D9 p.op=Z->x.rg=[]->fJ H h':=by
  intro hl hr;simp only[hl,hr,List.isEmpty_nil,V1,xK,a1h]at X5;simp only[hl,hr,List.isEmpty_nil,V1,xK,a1h,bK,qK,uI]at h4;cases Sn:y.ext with
  |true=>exact hE (by simp only[DE.ex,Sn,X5,V1])
  |false=>
   rw [hP.h Sn h4.1 λhs => by rcases h4.2 with(h6|h6)|h6
                              ·rw[hs]at h6;cases h6
                              ·intro h7;rw[h7]at h6;cases h6
                              ·rw[Sn]at h6;cases h6]
   exact .refl H
 have:=dV f h' (λak H'=>(x.ex=Z->fJ h' H')/\K ak H') hSx hL ⟨λhh=>(by simp only[DE.ex,dY.1,a1i]at hh;cases hh),hK⟩;refine⟨?_,this⟩;rw[zru hSx wx.mrs];exact h.1
end
def Tq(bs:List Nat)(o:Oper):Nat:=o.after.toList.foldl (λs e=>if Region.binds .any e then s|||2^e.on|||bs.getD e.on 0 else s) 0
def JK:List Oper->List Nat->List Nat
 |[],bs=>bs
 |o::r,bs=>JK r (bs++[Tq bs o])
def MO(bs:List Nat)(xs:List (Nat×Nat))(j:Nat)(o:Oper):Nat:=xs.foldl (λs p=>if p.2=j then s|||2^p.1|||bs.getD p.1 0 else s) (Tq bs o)
def Ts(ops:List Oper)(xs:List (Nat×Nat)):Nat->List Nat->List Nat
 |0,bs=>bs
 |n+1,bs=>Ts ops xs n ((List.range ops.length).map λj=>MO bs xs j (ops.getD j default))
def CS(ops:List Oper)(bs:List Nat):List DE->Bool
 |[]=>Z
 |x::r=>(r.all λy=>y.i !=x.i&&((bs.getD y.i 0).testBit x.i||Gt x (ops.getD x.i default) y (ops.getD y.i default)))&&CS ops bs r
def H9(D:List DE)(ops:List Oper)(xs:List (Nat×Nat):=[]):Bool:=
 let bs:=if xs.isEmpty then JK ops []else Ts ops xs 6 (JK ops [])
 let pre:=ops.map (·.dst)
 (D.length==ops.length)&&(xs.all λp=>Nat.blt p.1 ops.length&&p.1 !=p.2)&&
 ((List.range ops.length).all λj=>bs.getD j 0==MO bs xs j (ops.getD j default)&&((ops.getD j default).after.toList.all λe=> !Region.binds .any e||Nat.blt e.on j)&&(D.map (·.i)).contains j)&&
 (D.all λx=>Nat.blt x.i ops.length&&SF pre x (ops.getD x.i default))&&CS ops bs D
def Cy(run:List DE->Prop)(ops:List Oper):Nat->List (Nat×Nat)->Prop
 |0,xs=>∃D:List DE,H9 D ops xs=Z/\run D
 |n+1,xs=>∃a b,a≠b/\Cy run ops n ((a,b)::xs)/\Cy run ops n ((b,a)::xs)
theorem TL{run a0k:List DE->Prop}{ops:List Oper}(hk:∀D,run D->a0k D):∀{n:Nat}{xs:List (Nat×Nat)},Cy run ops n xs->Cy a0k ops n xs:=by
 intro n;induction n with
 |zero=>intro xs ⟨D,h,h'⟩;exact⟨D,h,hk D h'⟩
 |succ n ih=>intro xs ⟨a,b,h,h1,h2⟩;exact⟨a,b,h,ih h1,ih h2⟩
def Ny(P:Program)(nt:Nat)(ops:Array Oper)(K:FR->AH->Prop)(fr:FR)(H:AH):Prop:=
 P.follows .mixedOrders=Z/\∃n,Cy (λD=>iF P nt (ops.toList.map (·.dst)) (D.map λx=>(x,ops.toList.getD x.i default)) K fr H) ops.toList n []
theorem zv4{P:Program}{nt:Nat}{ops:Array Oper}{K K2:FR->AH->Prop}(hk:∀fr H,K fr H->K2 fr H){fr:FR}{H:AH}(h:Ny P nt ops K fr H):Ny P nt ops K2 fr H:=
 let⟨h0,n,h1⟩:=h;⟨h0,n,TL (λ_=>zyy hk) h1⟩
theorem zB4{bs:List Nat}{o:Oper}{x:Nat}(h:(Tq bs o).testBit x=Z):∃e,e∈o.after.toList/\Region.binds .any e=Z/\(e.on=x\/(bs.getD e.on 0).testBit x=Z):=by
 have key:∀(l:List Edge) (s:Nat),(l.foldl (λs e=>if Region.binds .any e then s|||2^e.on|||bs.getD e.on 0 else s) s).testBit x=Z->s.testBit x=Z\/∃e,e∈l/\Region.binds .any e=Z/\(e.on=x\/(bs.getD e.on 0).testBit x=Z):=by
  intro l;induction l with
  |nil=>intro s h;exact .inl h
  |cons e l ih=>
   intro s h;simp only[Qc]at h;rcases ih _ h with h1|⟨e',h1,h2⟩
   ·split at h1
    ·rename_i hb;rw[V2,V2]at h1;simp only[uI]at h1;rcases h1 with(h1|h1)|h1
     ·exact .inl h1
     ·rw[a5s]at h1;exact .inr ⟨e,qJ ..,hb,.inl (by simpa using h1)⟩
     ·exact .inr ⟨e,qJ ..,hb,.inr h1⟩
    ·exact .inl h1
   ·exact .inr ⟨e',oB _ h1,h2⟩
 rcases key _ _ h with h|h
 ·simp at h
 ·exact h
section
variable {P:Program}{nt:Nat}{pre:List (Option Tmp)}{K:FR->AH->Prop}
theorem zN0{q:DE×Oper}(wq:WF pre q.1 q.2){B:List (DE×Oper)}:∀{A:List (DE×Oper)}{fr:FR}{H:AH}(_:∀p,p∈A->WF pre p.1 p.2/\Gt p.1 p.2 q.1 q.2=Z) (_:iF P nt pre (A++q::B) K fr H),iF P nt pre (q::(A++B)) K fr H:=by
 intro A;induction A with
 |nil=>intro fr H _ h;exact h
 |cons p A ih=>
  intro fr H hp h;have h1:wj P nt pre p.1 p.2 (iF P nt pre (q::(A++B)) K) fr H:=Ym (λfr H hh=>ih (λp QO=>hp p (oB _ QO)) hh) h;have h2:=hp p (qJ ..);exact swap h2.1 wq h2.2 h1
theorem zzI{bs:List Nat}{xs:List (Nat×Nat)}{j:Nat}{o:Oper}{x:Nat}(h:(MO bs xs j o).testBit x=Z):(∃e,e∈o.after.toList/\Region.binds .any e=Z/\(e.on=x\/(bs.getD e.on 0).testBit x=Z))\/∃p,p∈xs/\p.2=j/\(p.1=x\/(bs.getD p.1 0).testBit x=Z):=by
 have key:∀(l:List (Nat×Nat)) (s:Nat),(l.foldl (λs p=>if p.2=j then s|||2^p.1|||bs.getD p.1 0 else s) s).testBit x=Z->s.testBit x=Z\/∃p,p∈l/\p.2=j/\(p.1=x\/(bs.getD p.1 0).testBit x=Z):=by
  intro l;induction l with
  |nil=>intro s h;exact .inl h
  |cons e l ih=>
   intro s h;simp only[Qc]at h;rcases ih _ h with h1|⟨e',h1,h2⟩
   ·split at h1
    ·rename_i hb;rw[V2,V2]at h1;simp only[uI]at h1;rcases h1 with(h1|h1)|h1
     ·exact .inl h1
     ·rw[a5s]at h1;exact .inr ⟨e,qJ ..,hb,.inl (by simpa using h1)⟩
     ·exact .inr ⟨e,qJ ..,hb,.inr h1⟩
    ·exact .inl h1
   ·exact .inr ⟨e',oB _ h1,h2⟩
 rcases key _ _ h with h|h
 ·exact .inl (zB4 h)
 ·exact .inr h
theorem zw7{ops:List Oper}{bs:List Nat}{x:DE}{B:List DE}:∀{A:List DE},CS ops bs (A++x::B)=Z->
 (∀y,y∈A->x.i≠y.i/\((bs.getD x.i 0).testBit y.i=Z\/Gt y (ops.getD y.i default) x (ops.getD x.i default)=Z))/\(∀y,y∈B->y.i≠x.i)/\CS ops bs (A++B)=Z:=by
 intro A;induction A with
 |nil=>
  intro h;simp only[na,CS,bK,bm]at h;refine⟨λ_ hy=>(by cases hy),λy hy=>?_,h.2⟩;have:=(h.1 y hy).1;simpa using this
 |cons a A ih=>
  intro h;simp only[uJ,CS,bK,bm,uI]at h⊢;obtain⟨i1,i2,i3⟩:=ih h.2;refine⟨λy hy=>?_,i2,λy hy=>?_,i3⟩
  ·rcases f6.1 hy with rfl|hy
   ·have:=h.1 x (by simp);exact⟨by simpa using this.1,this.2⟩
   ·exact i1 y hy
  ·refine h.1 y ?_;rcases kj.1 hy with hy|hy
   ·exact th _ hy
   ·exact zA _ (oB _ hy)
end
structure Inv (ops:List Oper) (bs:List Nat) (dm:Array Bool) (L:List DE):Prop where
 sz:dm.size=ops.length
 a2x:CS ops bs L=Z
 wf:∀x,x∈L->x.i<ops.length/\WF (ops.map (·.dst)) x (ops.getD x.i default)
 cov:∀i,i<ops.length->dm.getD i Z=Z\/∃x,x∈L/\x.i=i
 un:∀x,x∈L->dm.getD x.i Z=aa
 cl:∀j,j<ops.length->dm.getD j Z=Z->∀x,(bs.getD j 0).testBit x=Z->dm.getD x aa=Z
theorem NE(a:Array Bool)(d t:Nat)(u:Bool)(hd:d<a.size):(a.setIfInBounds d Z).getD t u=if t=d then Z else a.getD t u:=by
 simp only[xF,a1b];by_cases h:d=t
 ·subst h;simp[hd]
 ·rw[aB h,aB (λe=>h e.symm)]
section
variable {c:rA}{P:Program}{K:FR->AH->Prop}{Q:Exit->Act->World->Prop}{ops:Array Oper}{bs:List Nat}
def Jw(ops:Array Oper):Nat->Array Bool->List Nat->Prop
 |0,_,s=>s=[]
 |n+1,dm,s=>(s=[]/\Region.ready .any ops dm=[])\/∃i s',s=i::s'/\i∈Region.ready .any ops dm/\Jw ops n (dm.setIfInBounds i Z) s'
theorem zDM:∀(iJ t:Nat) (dm:Array Bool),Jw ops iJ dm (Region.linearise.go .any ops iJ t dm []):=by
 intro iJ;induction iJ with
 |zero=>intro t dm;rfl
 |succ iJ ih=>
  intro t dm;simp only[Region.linearise.go]
  change Jw ops (iJ+1) dm (match(Region.ready .any ops dm)[t%(Region.ready .any ops dm).length]? with
   |some i=>Region.linearise.go .any ops iJ (t/(Region.ready .any ops dm).length) (dm.setIfInBounds i Z) [i]
   |none=>[].reverse)
  cases hi:(Region.ready .any ops dm)[t%(Region.ready .any ops dm).length]? with
  |none=>
   refine .inl ⟨rfl,?_⟩;cases hr:Region.ready .any ops dm with
   |nil=>rfl
   |cons x xs=>
    rw[hr]at hi;have hlt:t%(x::xs).length<(x::xs).length:=nb _ (by simp);simp at hi;simp at hlt;omega
  |some i=>
   simp only[];rw[linearise_go_acc,List.reverse_singleton,a1j];exact .inr ⟨i,_,rfl,eA hi,ih _ _⟩
def bef(a b:Nat):List Nat->Bool
 |[]=>Z
 |i::s=>if i=a then Z else if i=b then aa else bef a b s
theorem zDk{a b:Nat}(h:a≠b):∀s,bef a b s=Z\/bef b a s=Z:=by
 intro s;induction s with
 |nil=>exact .inl rfl
 |cons i s ih=>
  simp only[bef];by_cases h1:i=a
  ·exact .inl (aD h1)
  ·by_cases h2:i=b
   ·exact .inr (aD h2)
   ·rw[aB h1,aB h2,aB h2,aB h1];exact ih
theorem zuO{xs:List (Nat×Nat)}(iP:∀p,p∈xs->p.1<ops.toList.length/\p.1≠p.2)(nl:∀j,j<ops.toList.length->bs.getD j 0=MO bs xs j (ops.toList.getD j default))(hlt:∀j,j<ops.toList.length->∀e,e∈(ops.toList.getD j default).after.toList->Region.binds .any e=Z->e.on<j)
(hn:∀m' ak H' a' w',K ak H'->aX c m' ak H' a' w'->Q .normal a' w'):∀(iJ:Nat) {s:List Nat}{dm:Array Bool}{L:List DE}{m:Mu}{fr:FR}{H:AH}{a:Act}{w:World},
 L.length=iJ->Jw ops iJ dm s->(∀p,p∈xs->dm.getD p.1 Z=Z\/bef p.1 p.2 s=Z)->Inv ops.toList bs dm L->iF P c.nt (ops.toList.map (·.dst)) (L.map λx=>(x,ops.toList.getD x.i default)) K fr H->aX c m fr H a w->wpOps P ops Q s a w:=by
 intro iJ
 have kL:∀{dm:Array Bool}{i:Nat},i∈Region.ready .any ops dm->i<ops.toList.length/\dm.getD i Z=aa/\∀e,e∈(ops.toList.getD i default).after.toList->Region.binds .any e=Z->dm.getD e.on aa=Z:=by
  intro dm i hi;simp only[Region.ready,List.mem_filter,kP,bK,qK]at hi;obtain⟨h1,h2,h3⟩:=hi;refine⟨by simpa using h1,h2,λe he hb=>?_⟩;have h4:ops[i]? =J ops[i]:=Ev h1;rw[h4]at h3;simp only[mA,xG]at h3;have h5:ops.toList.getD i default=ops[i]:=by simp[List.getD,h1]
  rw[h5]at he;rw[Array.all_eq_true']at h3;have:=h3 e (by simpa using he);simpa[hb]using this
 have a3D:∀{dm:Array Bool}{i:Nat},i<ops.toList.length->dm.getD i Z=aa->(∀e,e∈(ops.toList.getD i default).after.toList->Region.binds .any e=Z->dm.getD e.on aa=Z)->i∈Region.ready .any ops dm:=by
  intro dm i h1 h2 h3;have ki:i<ops.size:=by simpa using h1
  simp only[Region.ready,List.mem_filter,kP,bK,qK];refine⟨ki,h2,?_⟩;have h4:ops[i]? =J ops[i]:=Ev ki;have h5:ops.toList.getD i default=ops[i]:=by simp[List.getD,ki]
  rw[h4];simp only[mA,xG];rw[Array.all_eq_true'];intro e he;rw[h5]at h3;cases hb:Region.binds .any e with
  |false=>rfl
  |true=>simp[h3 e (by simpa using he) hb]
 induction iJ with
 |zero=>
  intro s dm L m fr H a w hl hs hx hI hd r;have:L=[]:=m9 hl;subst this;cases hs;exact hn m fr H a w hd r
 |succ iJ ih=>
  intro s dm L m fr H a w hl hs Nd hI hd r;rcases hs with⟨_,Ul⟩|⟨i,s,rfl,hi,mW⟩
  ·exfalso
   have qp:∀i,i<ops.toList.length->dm.getD i Z=Z:=by
    intro i;induction i using Nat.strongRecOn with
    |ind i ihi=>
     intro hi;by_cases hc:dm.getD i Z=Z
     ·exact hc
     ·exfalso
      have:i∈Region.ready .any ops dm:=by
       refine a3D hi (by simpa using hc) λe he hb=>?_
       have h1:=hlt i hi e he hb;have h2:=ihi e.on h1 (by omega);have h3:e.on<dm.size:=by rw[hI.sz];omega
       simp only[xF,Ev h3,xG]at h2⊢;exact h2
      rw[Ul]at this;cases this
   cases L with
   |nil=>cases hl
   |cons x L=>
    have h1:=hI.un x (qJ ..);rw[qp x.i (hI.wf x (qJ ..)).1]at h1;cases h1
  ·obtain⟨h1,h2,h3⟩:=kL hi
   obtain⟨x,hx,CT⟩:∃x,x∈L/\x.i=i:=by
    rcases hI.cov i h1 with h|h
    ·rw[h2]at h;cases h
    ·exact h
   obtain⟨A,B,rfl⟩:=List.append_of_mem hx;subst CT;obtain⟨p1,p2,p3⟩:=zw7 hI.a2x
   have XS:∀y,(bs.getD x.i 0).testBit y=Z->dm.getD y aa=Z:=by
    intro y hy;rw[nl _ h1]at hy;rcases zzI hy with⟨e,he,hb,h|h⟩|⟨p,hp,xq,h⟩
    ·rw[<-h];exact h3 e he hb
    ·have a5Z:=hlt _ h1 e he hb;refine hI.cl e.on (by omega) ?_ y h;have h4:=h3 e he hb;have h5:e.on<dm.size:=by rw[hI.sz];omega
     simp only[xF,Ev h5,xG]at h4⊢;exact h4
    ·have BU:dm.getD p.1 Z=Z:=by
      rcases Nd p hp with h4|h4
      ·exact h4
      ·simp only[bef]at h4;rw[aB λe=>(iP p hp).2 (e.symm.trans xq.symm),aD xq.symm]at h4;cases h4
     rcases h with h|h
     ·rw[<-h];have h5:p.1<dm.size:=by rw[hI.sz];exact(iP p hp).1
      simp only[xF,Ev h5,xG]at BU⊢;exact BU
     ·exact hI.cl p.1 (iP p hp).1 BU y h
   have hA:∀y,y∈A->Gt y (ops.toList.getD y.i default) x (ops.toList.getD x.i default)=Z:=by
    intro y hy;have h5:=hI.un y (th _ hy);rcases(p1 y hy).2 with h|h
    ·exfalso;have h4:=XS _ h;have h6:y.i<dm.size:=by rw[hI.sz];exact(hI.wf y (th _ hy)).1
     simp only[xF,Ev h6,xG]at h4 h5;rw[h5]at h4;cases h4
    ·exact h
   have iw:iF P c.nt (ops.toList.map (·.dst)) ((x,ops.toList.getD x.i default)::((A++B).map λx=>(x,ops.toList.getD x.i default))) K fr H:=by
    rw[mz,jT]at hd;rw[mz];refine zN0 (hI.wf x hx).2 ?_ hd;intro p hp;obtain⟨y,hy,rfl⟩:=jU.1 hp;exact⟨(hI.wf y (th _ hy)).2,hA y hy⟩
   have a3s:∀p,p∈xs->(dm.setIfInBounds x.i Z).getD p.1 Z=Z\/bef p.1 p.2 s=Z:=by
    intro p hp;have iP:x.i<dm.size:=by rw[hI.sz];exact h1
    rw[NE _ _ _ _ iP];by_cases xq:p.1=x.i
    ·exact .inl (aD xq)
    ·rw[aB xq];rcases Nd p hp with h4|h4
     ·exact .inl h4
     ·simp only[bef]at h4;rw[aB λe=>xq e.symm]at h4;split at h4
      ·cases h4
      ·exact .inr h4
   have hI':Inv ops.toList bs (dm.setIfInBounds x.i Z) (A++B):=by
    have iP:x.i<dm.size:=by rw[hI.sz];exact h1
    have Cr:∀y,y∈A++B->y∈A++x::B/\y.i≠x.i:=by
     intro y hy;rcases kj.1 hy with hy|hy
     ·exact⟨th _ hy,λe=>(p1 y hy).1 e.symm⟩
     ·exact⟨zA _ (oB _ hy),p2 y hy⟩
    refine⟨by simpa using hI.sz,p3,λy hy=>hI.wf y (Cr y hy).1,λi hi'=>?_,λy hy=>?_,λj hj JF y hy=>?_⟩
    ·rw[NE _ _ _ _ iP];by_cases jm:i=x.i
     ·left;rw[aD jm]
     ·rw[aB jm];rcases hI.cov i hi' with h|⟨y,hy,E4⟩
      ·exact .inl h
      ·right;rcases kj.1 hy with hy|hy
       ·exact⟨y,th _ hy,E4⟩
       ·rcases f6.1 hy with rfl|hy
        ·exact absurd E4.symm jm
        ·exact⟨y,zA _ hy,E4⟩
    ·rw[NE _ _ _ _ iP,aB (Cr y hy).2];exact hI.un y (Cr y hy).1
    ·rw[NE _ _ _ _ iP]at JF⊢;by_cases hyx:y=x.i
     ·rw[aD hyx]
     ·rw[aB hyx];by_cases MX:j=x.i
      ·subst MX;exact XS y hy
      ·rw[aB MX]at JF;exact hI.cl j hj JF y hy
   have ki:x.i<ops.size:=by simpa using h1
   have Kc:ops[x.i]? =J (ops.toList.getD x.i default):=by
    rw[Ev ki];simp[List.getD,ki]
   rw[wpOps_cons];unfold wpOp;rw[Kc];simp only
   have hs:=zyz (Q:=Q) (next:=wpOps P ops Q s) iw.2 r λm' ak H' a' w' hk r'=>
    ih (by simp at hl⊢;omega) mW a3s hI' hk.2 r'
   split
   ·rename_i hw;rw[aD hw]at hs;exact .inl hs
   ·rename_i hw;rw[aB hw]at hs;exact hs
theorem zuD{id:Nat}{m:Mu}{fr:FR}{H:AH}{a:Act}{w:World}(h:Ny P c.nt ops K fr H)(r:aX c m fr H a w)
(hn:∀m' ak H' a' w',K ak H'->aX c m' ak H' a' w'->Q .normal a' w'):(Code.region id ops Z).wp P Q a w:=by
 obtain⟨CY,n,hX⟩:=h;refine wp_region_draw λt=>?_
 have key:∀(s:List Nat),Jw ops ops.size (Array.replicate ops.size aa) s->∀n xs,Cy (λD=>iF P c.nt (ops.toList.map (·.dst)) (D.map λx=>(x,ops.toList.getD x.i default)) K fr H) ops.toList n xs->(∀p,p∈xs->bef p.1 p.2 s=Z)->wpOps P ops Q s a {w with drawn:=w.drawn+1}:=by
  intro s hs n;induction n with
  |zero=>
   rintro xs ⟨D,hD,hd⟩ hx;simp only[H9,bK,bm,kP]at hD;obtain⟨⟨⟨⟨hlen,iP⟩,qp⟩,DS⟩,a4U⟩:=hD;refine zuO (xs:=xs) (bs:=if xs.isEmpty then JK ops.toList []else Ts ops.toList xs 6 (JK ops.toList [])) (λp hp=>⟨a1k (iP p hp).1,by simpa using(iP p hp).2⟩) (λj hj=>?_) (λj hj e he hb=>?_) hn ops.size (L:=D) (by simpa using hlen) hs (λp hp=>.inr (hx p hp)) ?_ hd r.drew
   ·simpa using(qp j hj).1.1
   ·exact by have:=(qp j hj).1.2 e he;rw[hb]at this;simpa using this
   ·refine⟨by simp,a4U,λx hx=>⟨a1k (DS x hx).1,zF1 (DS x hx).2⟩,λi hi=>?_,λx hx=>?_,λj hj JF=>?_⟩
    ·right;have:=(qp i hi).2;simpa[jU]using this
    ·have h1:x.i<ops.toList.length:=a1k (DS x hx).1;have ki:x.i<ops.size:=by simpa using h1
     simp[xF,ki]
    ·have ki:j<ops.size:=by simpa using hj
     simp[xF,ki]at JF
  |succ n ih=>
   rintro xs ⟨a,b,oa,h1,h2⟩ hx;rcases zDk oa s with h|h
   ·exact ih _ h1 λp hp=>by
     rcases f6.1 hp with rfl|hp
     ·exact h
     ·exact hx p hp
   ·exact ih _ h2 λp hp=>by
     rcases f6.1 hp with rfl|hp
     ·exact h
     ·exact hx p hp
 unfold Region.schedule;rw[CY,Bool.true_or,aD rfl];exact key _ (zDM _ _ _) n [] hX λp hp=>by cases hp
end
def fu(P:Program)(nt:Nat):Code->(Exit->FR->AH->Prop)->FR->AH->Prop
 | .skip,Q=>Q .normal
 | .region _ ops BJ,Q=>if BJ=Z then Ny P nt ops (Q .normal)else nr P nt (ops.toList.map (·.dst)) ops.toList (Q .normal)
 | .seq x y,Q=>fu P nt x (F4 (fu P nt y Q) Q)
 | .cond c t e,Q=>λfr H=>match be fr c with
  |some (.bool b)=>if b=Z then fu P nt t Q fr H else fu P nt e Q fr H
  |_=>False
 | .block id b,Q=>fu P nt b (In id Q)
 | .loop b,Q=>λfr H=>∃n,Y8 (fu P nt b) Q n fr H
 | .exit id,Q=>Q (.exit id)
 | .ret,Q=>Q .ret
 |_,_=>λ_ _=>False
def s8(P:Program)(fr:FR):ResultVar->Option Value
 | .tmp t=>match fr t with
  | .v x=>J x
  |_=>ae
 | .cell t ty=>match fr t with
  | .loc cells=>nx P ty (J cells)
  |_=>ae
def qi(P:Program)(fr:FR):List ResultVar->Option (List Value)
 |[]=>J []
 |x::xs=>match s8 P fr x,qi P fr xs with
  |some v,J vs=>J (v::vs)
  |_,_=>ae
def xT:List Value->Value
 |[v]=>v
 |vs=>.tuple vs.toArray
inductive It where
 |code (c:Code)
 |ops (pre:List (Option Tmp)) (l:List Oper)
 |iF (pre:List (Option Tmp)) (l:List (DE×Oper))
 |chk (p:AH->Prop)
 |bu (id:Nat)
def vr(P:Program)(nt:Nat):List It->(Exit->FR->AH->Prop)->Exit->FR->AH->Prop
 |[],Q,e=>Q e
 |it::k,Q,e=>match e with
  | .normal=>match it with
   | .code c=>fu P nt c (vr P nt k Q)
   | .ops pre l=>nr P nt pre l (vr P nt k Q .normal)
   | .iF pre l=>iF P nt pre l (vr P nt k Q .normal)
   | .chk p=>λfr H=>p H/\vr P nt k Q .normal fr H
   | .bu _=>vr P nt k Q .normal
  | .exit id=>match it with
   | .bu i=>if id=i then vr P nt k Q .normal else vr P nt k Q (.exit id)
   |_=>vr P nt k Q (.exit id)
  |e=>vr P nt k Q e
def aw(P:Program)(nt:Nat)(k:List It)(Q:Exit->FR->AH->Prop)(fr:FR)(H:AH):Prop:=vr P nt k Q .normal fr H
def ED(P:Program)(rs:Array ResultVar)(R:Value->AH->Prop):Exit->FR->AH->Prop
 | .normal,fr,H| .ret,fr,H=>match qi P fr rs.toList with
  |some vs=>R (xT vs) H
  |none=>False
 |_,_,_=>False
end Go.Am
