import Derived.Test.YtjnidpmkglobfaaGreatAmK
import Derived.Orders
open Bool renaming false→Z,true→O
open Option renaming none→aa,some→J
set_option linter.defProp false
namespace Go.Am
def gp:=@List.mem_cons
def gE:=@List.mem_singleton
def jr:=@List.mem_map
def ke:=@List.mem_append
def kT:=@List.mem_range
def mz:=@Option.map_some
def nc:=@Nat.mod_lt
def oH:=@List.mem_cons_of_mem
def oI:=@Bool.not_true
def qQ:=@List.mem_cons_self
def sr:=@Bool.not_eq_true'
def tI:=@List.mem_append_left
def tJ:=@List.cons_append
def xK:=@Bool.or_eq_true
def zp:=@List.mem_append_right
def Ey:=@Iff.rfl
def Qw:=@List.flatMap_cons
def Qx:=@Bool.and_self
def Wj:=@Nat.testBit_or
def a1y:=@List.mem_flatMap
def a1z:=@Bool.false_or
def a1A:=@Bool.false_and
def a1B:=@List.singleton_append
def a1C:=@Nat.le_of_ble_eq_true
def a5K:=@Nat.testBit_two_pow
set_option linter.unusedVariables false
set_option linter.unusedSimpArgs false
def fL(H a:AH):Prop:=H.n<=a.n/\∀id k,H.b id=J k->a.b id=J k
theorem fL.refl(H:AH):fL H H:=⟨cq _,λ_ _ h=>h⟩
theorem fL.trans{a b c:AH}(h:fL a b)(i:fL b c):fL a c:=⟨ii h.1 i.1,λid k j=>i.2 id k (h.2 id k j)⟩
section
variable {P:Program}
variable{H:AH}{K R:FR->AH->Prop}{fr:FR}{nt:Nat}{o:Oper}{pre:List (Option Tmp)}
theorem BM(a:∀fr H,K fr H->R fr H){d:Option Tmp}{x:FV}(h:bu nt K d x fr H):bu nt R d x fr H:=by
 unfold bu at h⊢;split at h
 ·split at h
  ·rename_i hd;rw[aE hd];exact a _ _ h
  ·cases h
 ·exact a _ _ h
theorem Sf(a:∀fr H,K fr H->R fr H)(h:dK P nt o K fr H):dK P nt o R fr H:=by
 unfold dK at h⊢;split at h
 ·split at h
  ·split at h
   ·exact BM a h
   ·cases h
  ·cases h
 ·cases h
theorem zq2(v:∀fr H,K fr H->R fr H){t:TypeId}{x i:Operand}{d:Option Tmp}:Q6 P nt t x i d K fr H->Q6 P nt t x i d R fr H:=
 λ⟨u,l,s,cs,k,j,e,g,r,a,b,h,m,n,p,q⟩=>⟨u,l,s,cs,k,j,e,g,r,a,b,h,m,n,p,BM v q⟩
theorem DG(a:∀fr H,K fr H->R fr H)(h:aN P nt o K fr H):aN P nt o R fr H:=by
 unfold aN at h⊢;split at h
 all_goals
  repeat' first
   |exact BM a h
   |exact a _ _ h
   |exact Sf a h
   |exact h.imp (Sf a) λ⟨b,l,m,i,j⟩=>⟨b,l,m,i,BM a j⟩
   |exact h.imp (BM a) (zq2 a)
   |exact h.imp (λx=>x) (zq2 a)
   |exact h.mono (λ_ _ k=>BM a k)
   |exact h.elim
   |rw[aE (by assumption)]
   |rw[aA (by assumption)]
   |split at h
theorem TD(a:∀fr H,K fr H->R fr H)(h:nj P nt pre o K fr H):nj P nt pre o R fr H:=by
 unfold nj at h⊢;split at h
 ·exact DG a h
 ·split at h
  ·split at h
   ·rename_i e;rw[aE e];exact DG a h
   ·rename_i e;rw[aA e];exact BM a h
  ·cases h
theorem zsT(a:∀fr H,K fr H->R fr H)(h:fY P nt o K fr H):fY P nt o R fr H:=by
 unfold fY at h⊢;split at h
 case h_3=>
  refine⟨h.1,?_⟩;have h:=h.2;split at h
  ·exact λb=>a _ _ (h b)
  ·exact a _ _ h
  ·exact h.elim
 case h_4=>
  split at h
  ·exact⟨h.1,h.2.1,h.2.2.1,a _ _ h.2.2.2⟩
  ·exact h.elim
 case h_5=>
  repeat' first
   |exact h.imp (λh=>⟨h.1,a _ _ h.2⟩) λ⟨i,u,v,m,j,k,q⟩=>⟨i,u,v,m,j,k,a _ _ q⟩
   |exact h.elim
   |split at h
 case h_6=>
  repeat' first
   |(obtain⟨i,cs,j,k⟩:=h;exact⟨i,cs,j,a _ _ k⟩)
   |exact h.elim
   |split at h
 case h_7=>
  obtain⟨N,n,l,i,j⟩:=h;exact⟨N,n,l,i,Sf a j⟩
 case h_8=>
  obtain⟨s,p,i,j⟩:=h;exact⟨s,p,i,a _ _ j⟩
 case h_9=>
  refine⟨h.1,?_⟩;have h:=h.2;split at h
  ·obtain⟨r,i,j⟩:=h;exact⟨r,i,a _ _ j⟩
  ·exact h.elim
 all_goals
  repeat' first
   |exact⟨h.1,h.2.1,a _ _ h.2.2⟩
   |exact h.elim
   |split at h
theorem zxI(a:∀fr H,K fr H->R fr H)(h:zJ P nt pre o K fr H):zJ P nt pre o R fr H:=by
 unfold zJ at h⊢;split at h
 ·exact h.imp (DG a) (zsT a)
 ·split at h
  ·split at h
   ·rename_i e;rw[aE e];exact h.imp (DG a) (zsT a)
   ·rename_i e;rw[aA e];exact BM a h
  ·cases h
theorem zxy :∀{l:List Oper}{K R:FR->AH->Prop}(_:∀fr H,K fr H->R fr H) {fr:FR}{H:AH},pP P nt pre l K fr H->pP P nt pre l R fr H:=by
 intro l;induction l with
 |nil=>intro K R a fr H h;exact a _ _ h
 |cons o l ih=>intro K R a fr H h;exact zxI (λ_ _ b=>ih a b) h
end
def ec:Operand->List Nat
 | .tmp t=>[t]
 |_=>[]
def CJ(o:Op):List Nat:=o.operands.toList.flatMap ec
def Vf(pre:List (Option Tmp))(o:Oper):List Nat:=
 match o.guard with
 |some (j,_)=>match pre[j]? with
  |some (J d)=>[d]
  |_=>[]
 |none=>[]
def sls(pre:List (Option Tmp))(o:Oper):List Nat:=CJ o.op++Vf pre o
def PE:Op->Bool
 | .call ⟨.value _,_,_⟩| .call ⟨.builtin .copy,_,_⟩=>O
 |_=>Z
def Tn:Op->Bool
 | .makeSlice .. =>O
 |_=>Z
def sx:Op->Bool
 | .call ⟨.builtin .append,_,_⟩=>O
 |_=>Z
def sK:Op->Bool
 | .store .. =>O
 |_=>Z
def DX:Op->Bool
 | .load .. =>O
 |_=>Z
def C8:Op->Option Nat
 | .load _ (.tmp t)=>J t
 | .store _ (.tmp t) _=>J t
 |_=>aa
structure DE where
 i:Nat
 sl:List Nat
 rg:List Nat
 mr:Option Nat
 ls:Bool
 ext:Bool
 wr:Bool
def DE.ex(e:DE):Bool:=e.ext&& !e.wr
def zzM:FV->Bool
 | .loc _| .lp .. | .skip=>O
 |_=>Z
def tP(rg:List Nat)(ls:Bool)(t:Nat):FV->Bool
 | .v (.tuple a)=> !a.toList.isEmpty
 | .v _=>O
 | .skip=>O
 | .loc _=>rg.contains t
 | .lp s _=>rg.contains s
 | .ls .. =>ls
def Ff(fr:FR):Option Nat->Bool
 |some t=>zzM (fr t)
 |none=>O
def yG(rg:List Nat)(ls:Bool)(fr:FR):List Nat->Bool
 |[]=>O
 |t::r=>tP rg ls t (fr t)&&yG rg ls fr r
def j8(e:DE)(fr:FR):Bool:=yG e.rg e.ls fr e.sl&&Ff fr e.mr
def RP(pre:List (Option Tmp))(e:DE)(o:Oper):Bool:=
 (sls pre o).all (e.sl.contains ·)&&(!e.ls||e.ext||sx o.op)&&(!(PE o.op||Tn o.op)||e.ext)&&
 (!(DX o.op||sK o.op)||e.rg.isEmpty||(e.mr.isSome&&e.mr==C8 o.op))&&(e.mr.toList.all (e.sl.contains ·))
def Sq(e:DE)(o:Oper):Bool:= !e.ext&& !sx o.op&& !sK o.op
def KI(xs a:List Nat):Bool:=xs.all λx=> !a.contains x
def EI(x:DE)(p:Oper)(y:DE)(q:Oper):Bool:=
 Sq x p&&KI p.dst.toList (y.sl++y.rg++q.dst.toList)&&KI q.dst.toList (x.sl++x.rg)&&
 (!(DX p.op&&x.rg.isEmpty)||(!sx q.op&&(!sK q.op|| !y.rg.isEmpty||y.ext)))&&
 (!sK q.op||KI y.rg (x.sl++x.rg))&&(!(DX p.op&&x.rg.isEmpty)|| !y.wr)
def vu(P:Program)(nt:Nat)(pre:List (Option Tmp))(e:DE)(o:Oper)(K:FR->AH->Prop)(fr:FR)(H:AH):Prop:=
 j8 e fr=O/\nj P nt pre o (λb a=>(e.ex=O->fL H a)/\K b a) fr H
def iE(P:Program)(nt:Nat)(pre:List (Option Tmp)):List (DE×Oper)->(FR->AH->Prop)->FR->AH->Prop
 |[],K,fr,H=>K fr H
 |(e,o)::r,K,fr,H=>vu P nt pre e o (iE P nt pre r K) fr H
inductive ce where
 |no
 |put (d:Nat) (x:FV)
 |loc (d:Nat) (cells:List Value)
def ce.bt:ce->FR->FR
 | .no,fr=>fr
 | .put d x,fr=>fr.put d x
 | .loc d cs,fr=>fr.fh d cs
def ce.dst:ce->List Nat
 | .no=>[]
 | .put d _| .loc d _=>[d]
def ce.of:Option Tmp->FV->ce
 |some d,x=>.put d x
 |none,_=>.no
structure pW (e:DE) (f g:FR):Prop where
 s:∀t,t∈e.sl->f t=g t
 r:∀s,s∈e.rg->∀cs,f s=.loc cs↔g s=.loc cs
section
variable {P:Program}{nt:Nat}{pre:List (Option Tmp)}{e:DE}{f g fr:FR}{H:AH}{U:ce}
variable{ls:Bool}{rg:List Nat}{x:Operand}
theorem Fb :∀{l:List Nat},yG rg ls fr l=O->∀t,t∈l->tP rg ls t (fr t)=O:=by
 intro l;induction l with
 |nil=>intro _ t h;cases h
 |cons a l ih=>
  intro h t b;simp only[yG,bC]at h;rcases gp.1 b with rfl|b
  ·exact h.1
  ·exact ih h.2 t b
theorem nF(h:pW e f g)(a:∀t,t∈ec x->t∈e.sl):aZ f x=aZ g x:=by
 cases x with
 |tmp t=>simp only[aZ,h.s t (a t (by simp[ec]))]
 |_=>rfl
theorem P9{t s o:Nat}(h:tP rg ls t (.lp s o)=O):s∈rg:=by simpa[tP]using h
theorem zuW{t:Nat}{cs:List Value}(h:tP rg ls t (.loc cs)=O):t∈rg:=by simpa[tP]using h
theorem sg(h:pW e f g)(i:j8 e g=O)(a:∀t,t∈ec x->t∈e.sl):bO f x=bO g x:=by
 cases x with
 |tmp t=>
  have j:=a t (by simp[ec]);simp only[bO,h.s t j];cases k:g t with
  |lp s o=>
   have S:s∈e.rg:=by
    simp only[j8,bC]at i;have:=Fb i.1 t j;rw[k]at this;exact P9 this
   simp only;cases b:g s with
   |loc cs=>rw[(h.r s S cs).2 b]
   |_=>
    cases l:f s with
    |loc cs=>rw[(h.r s S cs).1 l]at b;cases b
    |_=>rfl
  |_=>rfl
 |const c=>simp only[bO];rw[nF h a]
 |func c=>simp only[bO];rw[nF h a]
 |global c=>simp only[bO];rw[nF h a]
theorem AQ(j:j8 e g=O)(k:∀t,t∈ec x->t∈e.sl){s o:Nat}(h:bO g x=J (.lp s o)):s∈e.rg/\∃cs,g s=.loc cs:=by
 simp only[j8,bC]at j;cases x with
 |tmp t=>
  have b:=Fb j.1 t (k t (by simp[ec]));simp only[bO]at h;cases a:g t with
  |lp l m=>
   rw[a]at h b;simp only at h;cases i:g l with
   |loc cs=>rw[i]at h;cases h;exact⟨P9 b,cs,i⟩
   |_=>rw[i]at h;cases h
  |loc cs=>rw[a]at h b;cases h;exact⟨zuW b,cs,a⟩
  |v x=>rw[a]at h;cases h
  |skip=>rw[a]at h;cases h
  |ls=>rw[a]at h;cases h
 |const c=>simp only[bO,aZ]at h;split at h<;>cases h
 |func c=>simp only[bO,aZ]at h;cases h
 |global c=>simp only[bO,aZ]at h;cases h
end
section
variable {P:Program}{nt:Nat}{pre:List (Option Tmp)}{e:DE}{f g fr:FR}{H:AH}{U:ce}
variable{o:Oper}{x:FV}
theorem J5{a:Nat}(hd:a∉U.dst)(h:∀s o,x=.lp s o->s∉U.dst):(U.bt fr).put a x=U.bt (fr.put a x):=by
 cases U with
 |no=>rfl
 |put d y=>
  funext t;simp only[ce.dst,gE]at hd;simp only[ce.bt,FR.put];by_cases b:t=a
  ·subst b;simp[hd]
  ·simp[b]
 |loc d cs=>
  funext t;simp only[ce.dst,gE]at hd h;simp only[ce.bt,FR.put,FR.fh];by_cases b:t=a
  ·subst b;simp only[e7,aA hd];cases x with
   |lp s o=>simp only[lz];rw[aA (h s o rfl)]
   |_=>rfl
  ·simp[b]
theorem zwi(a b:Nat)(v:FV):lz a (lz b v)=lz b (lz a v):=by
 cases v with
 |lp s o=>
  have k:∀c,lz c (.lp s o)=if s=c then jv else .lp s o:=λ_=>rfl
  by_cases i:s=a<;>by_cases h:s=b
  ·rw[k b,aE h,k a,aE i];rfl
  ·rw[k b,aA h,k a,aE i];rfl
  ·rw[k b,aE h,k a,aA i,k b,aE h];rfl
  ·rw[k b,aA h,k a,aA i,k b,aA h]
 |_=>rfl
theorem Xg{b:Nat}{cs:List Value}(hd:b∉U.dst)(j:∀i s o,U=.put i (.lp s o)->s≠b):(U.bt fr).fh b cs=U.bt (fr.fh b cs):=by
 cases U with
 |no=>rfl
 |put d y=>
  funext t;simp only[ce.dst,gE]at hd;simp only[ce.bt,FR.put,FR.fh];by_cases a:t=b
  ·subst a;simp[hd]
  ·by_cases h:t=d
   ·subst h;simp only[a,e7,ja];cases y with
    |lp s o=>simp only[lz];rw[aA (j _ s o rfl)]
    |_=>rfl
   ·simp[a,h]
 |loc d k=>
  funext t;simp only[ce.dst,gE]at hd;simp only[ce.bt,FR.fh];by_cases a:t=b
  ·subst a;simp[hd,lz]
  ·by_cases h:t=d
   ·subst h;simp[a,lz]
   ·simp only[a,h,ja];exact zwi ..
theorem VX{s:Nat}(h:s∉U.dst)(cs:List Value):U.bt fr s=.loc cs↔fr s=.loc cs:=by
 cases U with
 |no=>exact Ey
 |put d y=>
  simp only[ce.dst,gE]at h;simp[ce.bt,FR.put,h]
 |loc d a=>
  simp only[ce.dst,gE]at h;simp only[ce.bt,FR.fh,aA h];cases fr s with
  |lp i b=>simp only[lz];split<;>simp[jv]
  |_=>simp[lz]
theorem zAx(S:∀t,t∈e.sl->t∉U.dst)(j:∀s,s∈e.rg->s∉U.dst)(W:j8 e (U.bt fr)=O):pW e (U.bt fr) fr:=by
 refine⟨λt b=>?_,λs S cs=>VX (j s S) cs⟩;simp only[j8,bC]at W;have a:=Fb W.1 t b;have hd:=S t b;cases U with
 |no=>rfl
 |put d y=>
  simp only[ce.dst,gE]at hd;simp[ce.bt,FR.put,hd]
 |loc d k=>
  simp only[ce.dst,gE]at hd;simp only[ce.bt,FR.fh,aA hd]at a⊢;cases i:fr t with
  |lp s o=>
   rw[i]at a;simp only[lz]at a⊢;split
   ·rename_i h;rw[aE h]at a;simp[jv,tP]at a
   ·rfl
  |_=>rfl
theorem zqX(h:pW e f g)(m:∀t,e.mr=J t->t∈e.sl):j8 e f=j8 e g:=by
 have j:∀l:List Nat,(∀t,t∈l->t∈e.sl)->yG e.rg e.ls f l=yG e.rg e.ls g l:=by
  intro l;induction l with
  |nil=>intro _;rfl
  |cons a l ih=>intro i;simp only[yG];rw[h.s a (i a (qQ ..)),ih λt b=>i t (oH _ b)]
 simp only[j8];rw[j _ λt b=>b];congr 1;cases k:e.mr with
 |none=>rfl
 |some t=>simp only[Ff];rw[h.s t (m t k)]
structure mZ (e:DE) (o:Oper) (fr:FR) (H:AH) (f:FR) (h:AH):Prop where
 s:∀t,t∉o.dst.toList->(sK o.op=O->t∉e.rg)->(∀l es cs,fr t≠.ls l es cs)->(∀d k,d∈o.dst.toList->fr t≠.lp d k)->f t=fr t
 r:∀s,s∉o.dst.toList->(sK o.op=O->s∉e.rg)->∀cs,f s=.loc cs↔fr s=.loc cs
 h:e.ext=Z->sx o.op=Z->(sK o.op=O->e.rg≠[])->h=H
theorem oS{K a:FR->AH->Prop}{d:Option Tmp}(h:bu nt K d x (U.bt fr) H)(hd:∀t,t∈d.toList->t∉U.dst)(j:∀s o,x=.lp s o->s∉U.dst)
(b:a ((ce.of d x).bt fr) H):bu nt (λf h=>K (U.bt f) h/\a f h) d x fr H:=by
 cases d with
 |none=>exact⟨h,b⟩
 |some d=>
  simp only[bu]at h⊢;split at h
  ·rename_i i;rw[aE i];exact⟨by rw[<-J5 (hd d (by simp)) j];exact h,b⟩
  ·cases h
theorem vg :mZ e o fr H ((ce.of o.dst x).bt fr) H:=by
 cases hd:o.dst with
 |none=>exact⟨λ_ _ _ _ _=>rfl,λ_ _ _ _=>Ey,λ_ _ _=>rfl⟩
 |some d=>
  refine⟨λt a _ _ _=>?_,λs a _ cs=>?_,λ_ _ _=>rfl⟩
  ·rw[hd]at a;simp at a;simp[ce.of,ce.bt,FR.put,a]
  ·rw[hd]at a;simp at a;simp[ce.of,ce.bt,FR.put,a]
theorem Zr{d:Nat}{cs:List Value}(hd:o.dst=J d):mZ e o fr H (fr.fh d cs) H:=by
 refine⟨λt a _ _ h=>?_,λs a _ i=>?_,λ_ _ _=>rfl⟩
 ·rw[hd]at a;simp at a;simp only[FR.fh,aA a];cases b:fr t with
  |lp s k=>
   simp only[lz];rw[aA];intro e;subst e;exact h _ k (by simp[hd]) b
  |_=>rfl
 ·rw[hd]at a;simp at a;simp only[FR.fh,aA a];cases b:fr s with
  |lp s k=>simp only[lz];split<;>simp[jv]
  |_=>simp[lz]
theorem zu8{x:Operand}(i:∀t,t∈ec x->t∉U.dst/\U.bt fr t=fr t):bm (U.bt fr) H x=(bm fr H x).map λr=>(r.1,U.bt r.2.1,r.2.2):=by
 cases x with
 |tmp t=>
  obtain⟨a,b⟩:=i t (by simp[ec]);simp only[bm,b];cases k:fr t with
  |v y=>rfl
  |ls l j cs=>simp only[mz];rw[J5 a (by intro s o h;cases h)]
  |_=>rfl
 |const c=>simp only[bm,aZ];split<;>rfl
 |func c=>rfl
 |global c=>rfl
theorem qX{x:Operand}{v:Value}{f:FR}{h:AH}(a:bm fr H x=J (v,f,h)):(∀t,(∀l b cs,fr t≠.ls l b cs)->f t=fr t)/\(∀t,f t=fr t\/((∃l b cs,fr t=.ls l b cs)/\∃y,f t=.v y))/\
 ((∀t,t∈ec x->∀l b cs,fr t≠.ls l b cs)->f=fr/\h=H/\aZ fr x=J v):=by
 have m:∀y:Operand,bm fr H y=(aZ fr y).map (λv=>(v,fr,H))->bm fr H y=J (v,f,h)->f=fr/\h=H/\aZ fr y=J v:=by
  intro y e a;rw[e]at a;cases p:aZ fr y with
  |none=>rw[p]at a;cases a
  |some w=>rw[p]at a;cases a;exact⟨rfl,rfl,rfl⟩
 cases x with
 |tmp t=>
  simp only[bm]at a;cases i:fr t with
  |v y=>
   rw[i]at a;cases a;exact⟨λ_ _=>rfl,λ_=>.inl rfl,λ_=>⟨rfl,rfl,by simp[aZ,i]⟩⟩
  |ls l b cs=>
   rw[i]at a;cases a;refine⟨λu r=>?_,λu=>?_,λq=>absurd i (q t (by simp[ec]) l b cs)⟩
   ·have:u≠t:=by rintro rfl;exact r l b cs i
    simp[FR.put,this]
   ·by_cases n:u=t
    ·subst n;exact .inr ⟨⟨l,b,cs,i⟩,_,j6 ..⟩
    ·exact .inl (by simp[FR.put,n])
  |skip=>rw[i]at a;cases a
  |loc cs=>rw[i]at a;cases a
  |lp s k=>rw[i]at a;cases a
 |const c=>
  obtain⟨rfl,rfl,j⟩:=m (.const c) rfl a;exact⟨λ_ _=>rfl,λ_=>.inl rfl,λ_=>⟨rfl,rfl,j⟩⟩
 |func c=>
  obtain⟨rfl,rfl,j⟩:=m (.func c) rfl a;exact⟨λ_ _=>rfl,λ_=>.inl rfl,λ_=>⟨rfl,rfl,j⟩⟩
 |global c=>
  obtain⟨rfl,rfl,j⟩:=m (.global c) rfl a;exact⟨λ_ _=>rfl,λ_=>.inl rfl,λ_=>⟨rfl,rfl,j⟩⟩
theorem zyT:∀{xs:List Operand}{fr:FR}{H:AH}(_:∀t,t∈xs.flatMap ec->t∉U.dst/\U.bt fr t=fr t),cz (U.bt fr) H xs=(cz fr H xs).map λr=>(r.1,U.bt r.2.1,r.2.2):=by
 intro xs;induction xs with
 |nil=>intro fr H _;rfl
 |cons x xs ih=>
  intro fr H h;have m:∀t,t∈ec x->t∉U.dst/\U.bt fr t=fr t:=λt b=>h t (by simp only[Qw,ke];exact .inl b)
  simp only[cz,zu8 m];cases l:bm fr H x with
  |none=>rfl
  |some r=>
   obtain⟨v,f,j⟩:=r;simp only[mz];have k:=qX l
   have n:∀t,t∈xs.flatMap ec->t∉U.dst/\U.bt f t=f t:=by
    intro t b;have a:=h t (by simp only[Qw,ke];exact .inr b);refine⟨a.1,?_⟩;rcases k.2.1 t with e|⟨_,y,e⟩
    ·
     have i:=a.2;cases U with
     |no=>rfl
     |put d z=>simp only[ce.dst,gE]at a;simp[ce.bt,FR.put,a.1]
     |loc d z=>
      simp only[ce.dst,gE]at a;simp only[ce.bt,FR.fh,aA a.1]at i⊢;rw[e];exact i
    ·cases U with
     |no=>rfl
     |put d z=>simp only[ce.dst,gE]at a;simp[ce.bt,FR.put,a.1]
     |loc d z=>
      simp only[ce.dst,gE]at a;simp only[ce.bt,FR.fh,aA a.1];rw[e];rfl
   rw[ih n];cases cz f j xs<;>rfl
theorem AM:∀{xs:List Operand}{u:List Value}{fr f:FR}{H h:AH}(_:cz fr H xs=J (u,f,h)),(∀t,(∀l j cs,fr t≠.ls l j cs)->f t=fr t)/\(∀t,f t=fr t\/((∃l j cs,fr t=.ls l j cs)/\∃y,f t=.v y))/\
 ((∀t,t∈xs.flatMap ec->∀l j cs,fr t≠.ls l j cs)->f=fr/\h=H):=by
 intro xs;induction xs with
 |nil=>intro u fr f H h b;cases b;exact⟨λ_ _=>rfl,λ_=>.inl rfl,λ_=>⟨rfl,rfl⟩⟩
 |cons x xs ih=>
  intro u fr f H h b;simp only[cz]at b;cases p:bm fr H x with
  |none=>rw[p]at b;cases b
  |some r=>
   obtain⟨v,A,B⟩:=r;rw[p]at b;simp only at b;cases q:cz A B xs with
   |none=>rw[q]at b;cases b
   |some r=>
    obtain⟨C,E,D⟩:=r;rw[q]at b;cases b;have n:=qX p;have s:=ih q;refine⟨λt k=>?_,λt=>?_,λz=>?_⟩
    ·have i:=n.1 t k;rw[s.1 t (by rw[i];exact k),i]
    ·rcases s.2.1 t with m|⟨⟨l,j,cs,m⟩,y,w⟩
     ·rcases n.2.1 t with i|⟨a,y,i⟩
      ·exact .inl (m.trans i)
      ·exact .inr ⟨a,y,m.trans i⟩
     ·rcases n.2.1 t with i|⟨a,_⟩
      ·exact .inr ⟨⟨l,j,cs,i▸m⟩,y,w⟩
      ·exact .inr ⟨a,y,w⟩
    ·obtain⟨rfl,rfl,_⟩:=n.2.2 λt k=>z t (by simp only[Qw,ke];exact .inl k)
     exact s.2.2 λt k=>z t (by simp only[Qw,ke];exact .inr k)
theorem zE{f:FR}{h k:AH}(j:∀t,(∀l i cs,fr t≠.ls l i cs)->f t=fr t)(p:∀t,f t=fr t\/((∃l i cs,fr t=.ls l i cs)/\∃y,f t=.v y))
(q:e.ext=Z->sx o.op=Z->(sK o.op=O->e.rg≠[])->k=H):mZ e o fr H ((ce.of o.dst x).bt f) k:=by
 have m:=vg (e:=e) (fr:=f) (H:=h) (o:=o) (x:=x);refine⟨λt a b c d=>?_,λs a b cs=>?_,q⟩
 ·rw[m.s t a b (by rw[j t c];exact c) (by rw[j t c];exact d)];exact j t c
 ·rw[m.r s a b cs];rcases p s with e|⟨⟨l,i,r,e⟩,y,n⟩
  ·rw[e]
  ·rw[e,n];simp
end
set_option linter.unusedSectionVars false
structure WF (pre:List (Option Tmp)) (e:DE) (o:Oper):Prop where
 sl:∀t,t∈sls pre o->t∈e.sl
 ls:e.ls=O->e.ext=O\/sx o.op=O
 call:PE o.op=O\/Tn o.op=O->e.ext=O
 mrs:∀t,e.mr=J t->t∈e.sl
 mr:DX o.op=O\/sK o.op=O->e.rg=[]\/∃t,e.mr=J t/\C8 o.op=J t
structure Vd (U:ce) (e:DE) (o:Oper):Prop where
 sl:∀t,t∈e.sl->t∉U.dst
 rg:∀s,s∈e.rg->s∉U.dst
 ds:∀t,t∈o.dst.toList->t∉U.dst
 lp:∀d s k,U=.put d (.lp s k)->s∉o.dst.toList
theorem zGX{pre:List (Option Tmp)}{e:DE}{o:Oper}(h:RP pre e o=O):WF pre e o:=by
 simp only[RP,bC]at h;obtain⟨⟨⟨⟨i,k⟩,l⟩,m⟩,b⟩:=h;refine⟨λt a=>?_,λn=>?_,λW=>?_,λt a=>by simpa[a]using b,λhm=>?_⟩
 ·rw[bc]at i;simpa using i t a
 ·simpa[n]using k
 ·rcases W with W|W<;>simpa[W]using l
 ·have:(e.rg.isEmpty||(e.mr.isSome&&e.mr==C8 o.op))=O:=by
   rcases hm with hm|hm<;>simpa[hm]using m
  simp only[xK,bC]at this;rcases this with h|⟨b,j⟩
  ·left;simpa using h
  ·right;obtain⟨t,a⟩:=HI.1 b;exact⟨t,a,by rw[a]at j;exact(beq_iff_eq.1 j).symm⟩
section
variable {P:Program}{nt:Nat}{pre:List (Option Tmp)}{e:DE}{o:Oper}{f g fr:FR}{H:AH}{U:ce}{K:FR->AH->Prop}
variable{t:TypeId}{x:Operand}{xs:List Operand}
theorem WF.of(Y:WF pre e o)(b:x∈o.op.operands.toList):∀t,t∈ec x->t∈e.sl:=
 λt a=>Y.sl t (tI _ (a1y.2 ⟨x,b,a⟩))
theorem WF.eZ(Y:WF pre e o)(i:∀x,x∈xs->x∈o.op.operands.toList):∀t,t∈xs.flatMap ec->t∈e.sl:=λt h=>by
 obtain⟨x,a,b⟩:=a1y.1 h;exact Y.of (i x a) t b
theorem WZ{a:Op}(h:iA a=J xs):∀x,x∈xs->x∈a.operands.toList:=by
 cases a<;>simp only[iA,aS,reduceCtorEq]at h<;>try (subst h;simp[Op.operands])
 ·rename_i c;obtain⟨i,args,N⟩:=c;cases i with
  |builtin b=>cases b<;>simp only[aS,reduceCtorEq]at h<;>(subst h;intro x j;simp[Op.operands,Call.operands];simpa using j)
  |_=>simp at h
theorem AN(Y:WF pre e o)(W:j8 e fr=O)(i:e.ext=Z)(j:sx o.op=Z):∀t,t∈e.sl->∀l a cs,fr t≠.ls l a cs:=by
 intro t m l a cs k;simp only[j8,bC]at W;have b:=Fb W.1 t m;rw[k]at b;rcases Y.ls b with h|h
 ·rw[i]at h;cases h
 ·rw[j]at h;cases h
variable (T:Vd U e o) (Y:WF pre e o) (X:pW e (U.bt fr) fr) (W:j8 e fr=O)
include T Y X W
theorem zy5{a:Operand}(j:o.op=.load t a)(h:aN P nt o K (U.bt fr) H):aN P nt o (λf h=>K (U.bt f) h/\mZ e o fr H f h) fr H:=by
 have l:∀t,t∈ec a->t∈e.sl:=Y.of (by simp[j,Op.operands])
 have m:mI (U.bt fr) H a=mI fr H a:=by
  unfold mI;rw[sg X W l];cases q:bO fr a with
  |none=>rfl
  |some v=>
   cases v with
   |lp s k=>
    obtain⟨S,cs,b⟩:=AQ W l q;simp only;rw[b,(X.r s S cs).2 b]
   |v x=>
    cases x<;>try rfl
    rename_i p;cases p with
    |none=>rfl
    |some p=>obtain⟨i,k,r⟩:=p;cases r<;>rfl
   |_=>rfl
 simp only[aN,j,m]at h⊢;split at h
 ·rename_i v u;exact oS h T.ds (λs k n=>by cases n) vg
 ·cases h
omit T X in
theorem ZW{s k:Nat}(h:iO P fr o.op=J (.lp s k)):s∈e.rg:=by
 cases b:o.op<;>rw[b]at h<;>simp only[iO,reduceCtorEq]at h
 ·rename_i x;have a:∀t,t∈ec x->t∈e.sl:=Y.of (by simp[b,Op.operands]);split at h
  ·cases h
  ·rename_i j;cases h;exact(AQ W a j).1
  ·cases h
 ·rename_i t x f;have a:∀t,t∈ec x->t∈e.sl:=Y.of (by simp[b,Op.operands]);split at h
  ·rename_i j;cases h;exact(AQ W a j).1
  ·cases h
  ·cases h
 ·rename_i t x i;have a:∀t,t∈ec x->t∈e.sl:=Y.of (by simp[b,Op.operands])
  repeat' split at h
  all_goals first
   |(cases h;done)
   |(cases h;exact(AQ W a (by assumption)).1)
omit T in
theorem zy4:iO P (U.bt fr) o.op=iO P fr o.op:=by
 cases a:o.op<;>simp only[iO]
 ·rename_i x;rw[sg X W (Y.of (by simp[a,Op.operands]))]
 ·rename_i t x f;rw[sg X W (Y.of (by simp[a,Op.operands]))]
 ·rename_i t x i;rw[sg X W (Y.of (by simp[a,Op.operands])),nF X (Y.of (by simp[a,Op.operands]))]
theorem Sk(h:match iO P (U.bt fr) o.op with|some x=>bu nt K o.dst x (U.bt fr) H|none=>False):
 match iO P fr o.op with|some x=>bu nt (λf h=>K (U.bt f) h/\mZ e o fr H f h) o.dst x fr H|none=>False:=by
 rw[zy4 Y X W]at h;cases a:iO P fr o.op with
 |none=>rw[a]at h;cases h
 |some y=>
  rw[a]at h;exact oS h T.ds (λs k b=>T.rg s (ZW Y W (by rw[a,b]))) vg
theorem zxl(b:o.op=.alloc t)(h:aN P nt o K (U.bt fr) H):aN P nt o (λf h=>K (U.bt f) h/\mZ e o fr H f h) fr H:=by
 simp only[aN,b]at h⊢;split at h
 ·rename_i z d l hd;split at h
  ·rename_i j;rw[aE j];refine⟨?_,Zr hd⟩;rw[<-Xg (T.ds d (by simp[hd])) (λa s k i S=>T.lp a s k i (by simp[hd,S]))];exact h
  ·cases h
 ·cases h
theorem zBr(a:o.op=.box t x)(h:aN P nt o K (U.bt fr) H):aN P nt o (λf h=>K (U.bt f) h/\mZ e o fr H f h) fr H:=by
 simp only[aN,a,nF X (Y.of (x:=x) (by simp[a,Op.operands]))]at h⊢;split at h
 ·rename_i z v d m l hd;split at h
  ·rename_i j;rw[aE j];refine⟨?_,Zr hd⟩;rw[<-Xg (T.ds d (by simp[hd])) (λb s k i S=>T.lp b s k i (by simp[hd,S]))];exact h
  ·cases h
 ·cases h
theorem Vy(b:∀x,x∈xs->x∈o.op.operands.toList):cz (U.bt fr) H xs=(cz fr H xs).map λr=>(r.1,U.bt r.2.1,r.2.2):=
 zyT λt a=>have h:=Y.eZ b t a;⟨T.sl t h,X.s t h⟩
theorem zuz(b:x∈o.op.operands.toList):bm (U.bt fr) H x=(bm fr H x).map λr=>(r.1,U.bt r.2.1,r.2.2):=
 zu8 λt a=>have h:=Y.of b t a;⟨T.sl t h,X.s t h⟩
omit T X in
theorem N8{l:List Value}{f:FR}{h:AH}(k:∀x,x∈xs->x∈o.op.operands.toList)(i:cz fr H xs=J (l,f,h)):e.ext=Z->sx o.op=Z->f=fr/\h=H:=
 λa b=>(AM i).2.2 λt j=>AN Y W a b t (Y.eZ k t j)
omit T X in
theorem zzJ{v:Value}{f:FR}{h:AH}(k:x∈o.op.operands.toList)(i:bm fr H x=J (v,f,h)):e.ext=Z->sx o.op=Z->f=fr/\h=H:=
 λa b=>let r:=(qX i).2.2 λt j=>AN Y W a b t (Y.of k t j);⟨r.1,r.2.1⟩
theorem JM(h:dK P nt o K (U.bt fr) H):dK P nt o (λf h=>K (U.bt f) h/\mZ e o fr H f h) fr H:=by
 unfold dK at h⊢;cases b:iA o.op with
 |none=>rw[b]at h;cases h
 |some xs=>
  have i:=WZ b;rw[b]at h;simp only[Vy T Y X W i]at h⊢;cases a:cz fr H xs with
  |none=>rw[a]at h;cases h
  |some r=>
   obtain⟨q,f,l⟩:=r;rw[a]at h;simp only[mz]at h⊢;cases j:fk P o.op q with
   |none=>rw[j]at h;cases h
   |some v=>
    rw[j]at h;exact oS h T.ds (λs k p=>by cases p) (zE (h:=l) (AM a).1 (AM a).2.1 λm n _=>(N8 Y W i a m n).2)
end
section
variable {P:Program}{nt:Nat}{pre:List (Option Tmp)}{e:DE}{o:Oper}{f g fr:FR}{H:AH}{U:ce}{K:FR->AH->Prop}
variable (T:Vd U e o) (Y:WF pre e o) (X:pW e (U.bt fr) fr) (W:j8 e fr=O)
include T Y X W
variable{args:Array Operand}{t:TypeId}{N:Array TypeId}
theorem zqI{n:Nat}{j:Array (Nat×Operand)}(u:o.op=.buildSlice t n j)(h:aN P nt o K (U.bt fr) H):aN P nt o (λf h=>K (U.bt f) h/\mZ e o fr H f h) fr H:=by
 have q:∀x,x∈j.toList.map (·.2)->x∈o.op.operands.toList:=by intro x a;simpa[u,Op.operands]using a
 simp only[aN,u,Vy T Y X W q]at h⊢;cases m:df P t with
 |none=>rw[m]at h;cases h
 |some w=>
  cases hd:o.dst with
  |none=>rw[m,hd]at h;cases h
  |some d=>
   rw[m,hd]at h;cases a:cz fr H (j.toList.map (·.2))with
   |none=>rw[a]at h;cases h
   |some r=>
    obtain⟨E,f,y⟩:=r;rw[a]at h;simp only[mz]at h⊢;cases v:cE P w with
    |none=>rw[v]at h;cases h
    |some z=>
     obtain⟨F,l,b,z⟩:=z;rw[v]at h;simp only at h⊢;split at h
     ·rename_i D;rw[aE D];cases p:jI (λi=>J (i*l,l)) ((j.toList.map (·.1)).zip E) ((List.replicate n z).flatten)with
      |none=>rw[p]at h;cases h
      |some cs=>
       rw[p]at h;simp only at h⊢;refine⟨?_,?_⟩
       ·rw[<-J5 (T.ds d (by simp[hd])) (by intro s k C;cases C)];exact h
       ·have:=zE (e:=e) (o:=o) (h:=y) (x:=.ls n l cs) (AM a).1 (AM a).2.1 λA B _=>(N8 Y W q a A B).2
        rw[hd]at this;exact this
     ·cases h
theorem zyO{c a b:Operand}(i:o.op=.pick c a b)(h:aN P nt o K (U.bt fr) H):aN P nt o (λf h=>K (U.bt f) h/\mZ e o fr H f h) fr H:=by
 simp only[aN,i,nF X (Y.of (x:=c) (by simp[i,Op.operands])),nF X (Y.of (x:=a) (by simp[i,Op.operands])),nF X (Y.of (x:=b) (by simp[i,Op.operands]))]at h⊢;split at h
 ·split at h
  ·exact oS h T.ds (λs k j=>by cases j) vg
  ·cases h
 ·split at h
  ·exact oS h T.ds (λs k j=>by cases j) vg
  ·cases h
 ·cases h
theorem ztv{x:Operand}(a:o.op=.move x\/o.op=.assign x)(h:aN P nt o K (U.bt fr) H):aN P nt o (λf h=>K (U.bt f) h/\mZ e o fr H f h) fr H:=by
 have b:∀t,t∈ec x->t∈e.sl:=Y.of (by rcases a with a|a<;>simp[a,Op.operands])
 have i:∀K fr,aN P nt o K fr H=match bO fr x with
  |some (.lp s off)=>bu nt K o.dst (.lp s off) fr H
  |_=>dK P nt o K fr H:=by intro K fr;rcases a with a|a<;>(simp only[aN,a];rfl)
 rw[i]at h⊢;simp only[sg X W b]at h⊢;split at h
 ·rename_i s k l;exact oS h T.ds (λn m j=>by cases j;exact T.rg s (AQ W b l).1) vg
 ·exact JM T Y X W h
theorem zrc{l c:Operand}(a:o.op=.makeSlice t l c)(h:aN P nt o K (U.bt fr) H):aN P nt o (λf h=>K (U.bt f) h/\mZ e o fr H f h) fr H:=by
 simp only[aN,a,nF X (Y.of (x:=l) (by simp[a,Op.operands])),nF X (Y.of (x:=c) (by simp[a,Op.operands]))]at h⊢;split at h
 ·split at h
  ·split at h
   ·rename_i m;rw[aE m];have i:=Y.call (.inr (by simp[a,Tn]));refine oS h T.ds (λs k j=>by cases j) ?_;have:=vg (e:=e) (o:=o) (fr:=fr) (H:=H) (x:=.v (.slice (J ⟨H.n,0,J ‹Nat›⟩) 0 0));refine zE (h:=H) (λ_ _=>rfl) (λ_=>.inl rfl) ?_;intro b;rw[i]at b;cases b
   ·cases h
  ·cases h
 ·cases h
theorem zyw{i:Operand}(l:o.op=.call ⟨.value i,args,N⟩)(h:aN P nt o K (U.bt fr) H):aN P nt o (λf h=>K (U.bt f) h/\mZ e o fr H f h) fr H:=by
 have A:∀x,x∈args.toList->x∈o.op.operands.toList:=by intro x b;simp[l,Op.operands,Call.operands];exact .inr (by simpa using b)
 simp only[aN,l,Vy T Y X W A]at h⊢;cases b:cz fr H args.toList with
 |none=>rw[b]at h;cases h
 |some r=>
  obtain⟨I,f,q⟩:=r;rw[b]at h;simp only[mz]at h⊢
  have p:∀t,t∈ec i->U.bt f t=f t:=by
   intro t C;have n:=Y.of (x:=i) (by simp[l,Op.operands,Call.operands]) t C;have j:=X.s t n;have a:=T.sl t n;rcases(AM b).2.1 t with m|⟨_,y,m⟩
   ·cases U with
    |no=>rfl
    |put d z=>simp only[ce.dst,gE]at a;simp[ce.bt,FR.put,a]
    |loc d z=>
     simp only[ce.dst,gE]at a;simp only[ce.bt,FR.fh,aA a]at j⊢;rw[m];exact j
   ·cases U with
    |no=>rfl
    |put d z=>simp only[ce.dst,gE]at a;simp[ce.bt,FR.put,a]
    |loc d z=>
     simp only[ce.dst,gE]at a;simp only[ce.bt,FR.fh,aA a];rw[m];rfl
  have B:aZ (U.bt f) i=aZ f i:=by
   cases i with
   |tmp t=>simp only[aZ,p t (by simp[ec])]
   |_=>rfl
  rw[B]at h;split at h
  ·rename_i D first F E
   exact h.mono λv G w=>oS w T.ds (λs k u=>by cases u) (zE (h:=q) (AM b).1 (AM b).2.1 λj=>by rw[Y.call (.inl (by simp[l,PE]))]at j;cases j)
  ·cases h
omit T Y X W in
theorem zsq{t:Nat}{f:FR}(a:t∉U.dst)(h:U.bt fr t=fr t)(b:f t=fr t\/((∃l i cs,fr t=.ls l i cs)/\∃y,f t=.v y)):U.bt f t=f t:=by
 rcases b with b|⟨_,y,b⟩
 ·cases U with
  |no=>rfl
  |put d z=>simp only[ce.dst,gE]at a;simp[ce.bt,FR.put,a]
  |loc d z=>
   simp only[ce.dst,gE]at a;simp only[ce.bt,FR.fh,aA a]at h⊢;rw[b];exact h
 ·cases U with
  |no=>rfl
  |put d z=>simp only[ce.dst,gE]at a;simp[ce.bt,FR.put,a]
  |loc d z=>
   simp only[ce.dst,gE]at a;simp only[ce.bt,FR.fh,aA a];rw[b];rfl
theorem zvL(b:o.op=.call ⟨.builtin .append,args,N⟩)(h:aN P nt o K (U.bt fr) H):aN P nt o (λf h=>K (U.bt f) h/\mZ e o fr H f h) fr H:=by
 simp only[aN,b]at h⊢;split at h
 ·rename_i s x t M q D;split at h
  ·rename_i B;rw[aE B];have w:s∈o.op.operands.toList:=by rw[b];simp[Op.operands,Call.operands,q]
   have y:x∈o.op.operands.toList:=by rw[b];simp[Op.operands,Call.operands,q]
   simp only[zuz T Y X W w]at h;cases a:bm fr H s with
   |none=>rw[a]at h;cases h
   |some r=>
    obtain⟨L,f,i⟩:=r;rw[a]at h;simp only[mz]at h⊢
    have A:iF P t (U.bt f) i x=iF P t f i x:=by
     cases x with
     |tmp u=>
      have j:=Y.of y u (by simp[ec]);have:=zsq (T.sl u j) (X.s u j) ((qX a).2.1 u);simp only[iF,this]
     |const c=>
      cases c<;>try rfl
      rename_i p n m;cases p<;>cases n<;>cases m<;>rfl
     |_=>rfl
    rw[A]at h;split at h
    ·rename_i G F C;split at h
     ·rename_i v I E;exact oS h T.ds (λs k z=>by cases z) (zE (h:=i) (qX a).1 (qX a).2.1 λ_ l=>by rw[b]at l;simp[sx]at l)
     ·cases h
    ·cases h
  ·cases h
 ·cases h
theorem zzq(a:o.op=.call ⟨.builtin .copy,args,N⟩)(h:aN P nt o K (U.bt fr) H):aN P nt o (λf h=>K (U.bt f) h/\mZ e o fr H f h) fr H:=by
 simp only[aN,a]at h⊢;split at h
 ·rename_i x y t z i w;have j:x∈o.op.operands.toList:=by rw[a];simp[Op.operands,Call.operands,i]
  have q:y∈o.op.operands.toList:=by rw[a];simp[Op.operands,Call.operands,i]
  have r:iF P t (U.bt fr) H y=iF P t fr H y:=by
   cases y with
   |tmp u=>simp only[iF,X.s u (Y.of q u (by simp[ec]))]
   |const c=>
    cases c<;>try rfl
    rename_i p n m;cases p<;>cases n<;>cases m<;>rfl
   |_=>rfl
  rw[r,nF X (Y.of j)]at h;split at h
  ·split at h
   ·split at h
    ·rename_i v;rw[aE v];split at h
     ·exact oS h T.ds (λs k l=>by cases l) (zE (h:=H) (λ_ _=>rfl) (λ_=>.inl rfl) λb=>by rw[Y.call (.inl (by simp[a,PE]))]at b;cases b)
     ·cases h
    ·cases h
   ·cases h
  ·cases h
 ·cases h
theorem zxz{a x:Operand}(w:o.op=.store t a x)(h:aN P nt o K (U.bt fr) H):aN P nt o (λf h=>K (U.bt f) h/\mZ e o fr H f h) fr H:=by
 have F:x∈o.op.operands.toList:=by simp[w,Op.operands]
 have hma:a∈o.op.operands.toList:=by simp[w,Op.operands]
 simp only[aN,w,zuz T Y X W F]at h⊢;cases q:bm fr H x with
 |none=>rw[q]at h;cases h
 |some rx1=>
  obtain⟨v,f,h'⟩:=rx1;rw[q]at h;simp only[mz]at h⊢;cases hz:cE P t with
  |none=>rw[hz]at h;cases h
  |some zx1=>
   obtain⟨gg,sz,rr⟩:=zx1;rw[hz]at h;simp only at h⊢;split at h
   ·rename_i lU;rw[aE lU]
    have nl:bO (U.bt f) a=bO f a/\∀s k,bO f a=J (.lp s k)->s∈e.rg/\U.bt f s=f s:=by
     have C:∀s,s∈e.rg->∀cs,f s=.loc cs->U.bt f s=.loc cs:=λs S cs M=>(VX (T.rg s S) cs).2 M
     have a32:∀s,s∈e.rg->∀cs,U.bt f s=.loc cs->f s=.loc cs:=λs S cs M=>(VX (T.rg s S) cs).1 M
     cases a with
     |tmp u=>
      have E:=Y.of hma u (by simp[ec]);have hu:=zsq (T.sl u E) (X.s u E) ((qX q).2.1 u)
      have hk:∀y,f u=y->zzM y=O->tP e.rg e.ls u y=O:=by
       intro y hy j;simp only[j8,bC]at W;have:=Fb W.1 u E;rcases(qX q).2.1 u with m|⟨_,wx1,m⟩
       ·rw[<-hy,m];exact this
       ·rw[hy]at m;subst m;cases j
      simp only[bO,hu];cases p:f u with
      |lp s k=>
       have S:s∈e.rg:=P9 (hk _ p rfl);simp only;constructor
       ·cases n:f s with
        |loc cs=>rw[C s S cs n]
        |_=>
         cases D:U.bt f s with
         |loc cs=>rw[a32 s S cs D]at n;cases n
         |_=>rfl
       ·intro s' k' i;cases n:f s with
        |loc cs=>rw[n]at i;cases i;exact⟨S,by rw[C s S cs n,n]⟩
        |_=>rw[n]at i;cases i
      |loc cs=>
       refine⟨rfl,λs' k' i=>?_⟩;cases i;have S:u∈e.rg:=zuW (hk _ p rfl);exact⟨S,by rw[C u S cs p,p]⟩
      |v y=>exact⟨rfl,λ_ _ i=>by cases i⟩
      |skip=>exact⟨rfl,λ_ _ i=>by cases i⟩
      |ls=>exact⟨rfl,λ_ _ i=>by cases i⟩
     |const c=>exact⟨rfl,λs k i=>by simp only[bO,aZ]at i;split at i<;>cases i⟩
     |func c=>exact⟨rfl,λs k i=>by simp only[bO,aZ]at i;cases i⟩
     |global c=>exact⟨rfl,λs k i=>by simp only[bO,aZ]at i;cases i⟩
    rw[nl.1]at h;have A:sK o.op=O:=by rw[w];rfl
    have hap:sx o.op=Z:=by rw[w];rfl
    split at h
    ·rename_i s k j;obtain⟨S,D⟩:=nl.2 s k j;rw[D]at h;cases n:f s with
     |loc cells=>
      rw[n]at h;simp only at h⊢;cases hp:gk cells k v.cells.toList with
      |none=>rw[hp]at h;cases h
      |some cs=>
       rw[hp]at h;simp only at h⊢;rw[J5 (T.rg s S) (by intro a b i;cases i)]at h;refine oS h T.ds (λs k i=>by cases i) ?_;have Um:=vg (e:=e) (fr:=f.put s (.loc cs)) (H:=h') (o:=o) (x:=.skip);have hm:=qX q;refine⟨λt a b c d=>?_,λs2 a b c2=>?_,λG I _=>(zzJ Y W F q G I).2⟩
       ·have z:t≠s:=by rintro rfl;exact b A S
        have m:=hm.1 t c;rw[Um.s t a b (by simp only[FR.put,aA z];rw[m];exact c) (by simp only[FR.put,aA z];rw[m];exact d)];simp only[FR.put,aA z];exact m
       ·have z:s2≠s:=by rintro rfl;exact b A S
        rw[Um.r s2 a b c2];simp only[FR.put,aA z];rcases hm.2.1 s2 with m|⟨⟨l,es,cc,m⟩,y,e2⟩
        ·rw[m]
        ·rw[m,e2];simp
     |_=>rw[n]at h;cases h
    ·rename_i id off j;split at h
     ·rename_i b hb;split at h
      ·rename_i aY;rw[aE aY];split at h
       ·rename_i cs dU;refine oS h T.ds (λs k i=>by cases i) (zE (h:=h') (qX q).1 (qX q).2.1 λG I h3=>?_);exfalso;rcases Y.mr (.inr A)with L|⟨u,L,B⟩
        ·exact h3 A L
        ·
         simp only[j8,bC]at W;have r:=W.2;rw[L]at r;simp only[Ff]at r;rw[w]at B;cases a with
         |tmp u'=>
          simp only[C8,aS]at B;subst B;obtain⟨rfl,rfl⟩:=zzJ Y (by simp only[j8,bC];exact W) F q G I;simp only[bO]at j;cases p:f u' with
          |loc cs=>rw[p]at j;cases j
          |lp s k=>rw[p]at j;simp only at j;split at j<;>cases j
          |v y=>rw[p]at r;cases r
          |skip=>rw[p]at j;cases j
          |ls=>rw[p]at r;cases r
         |_=>simp[C8]at B
       ·cases h
      ·cases h
     ·cases h
    ·cases h
   ·cases h
theorem Xj(h:aN P nt o K (U.bt fr) H):aN P nt o (λf h=>K (U.bt f) h/\mZ e o fr H f h) fr H:=by
 cases a:o.op with
 |load=>exact zy5 T Y X W a h
 |fieldAddr=>
  have:=Sk (P:=P) (nt:=nt) (K:=K) (H:=H) T Y X W (by simp only[aN,a]at h;rw[a];exact h);simp only[aN,a];rw[a]at this;exact this
 |indexAddr t x i=>
  simp only[aN,a]at h⊢;rcases h with h|⟨u,l,p,cs,k,j,E,g,z,rfl,n,w,A,B,C,y⟩
  ·have:=Sk (P:=P) (nt:=nt) (K:=K) (H:=H) T Y X W (by rw[a];exact h);rw[a]at this;exact .inl this
  ·have v:=Y.of (x:=.tmp u) (by simp[a,Op.operands]) u (by simp[ec]);rw[X.s u v]at n;rw[nF X (Y.of (x:=i) (by simp[a,Op.operands]))]at w;rw[J5 (T.sl u v) (by intro s k m;cases m)]at y;refine .inr ⟨u,l,p,cs,k,j,E,g,z,rfl,n,w,A,B,C,oS y T.ds (λs k m=>by cases m) ?_⟩;refine zE (h:=H) (λt G=>?_) (λt=>?_) λq r _=>absurd n (AN Y W q r u v l p cs)
   ·by_cases m:t=u
    ·subst m;exact absurd n (G l p cs)
    ·simp[FR.put,m]
   ·by_cases m:t=u
    ·subst m;exact .inr ⟨⟨l,p,cs,n⟩,.slice (J ⟨H.n,0,J p⟩) l l,by simp[FR.put]⟩
    ·left;simp[FR.put,m]
 |nilCheck=>
  have:=Sk (P:=P) (nt:=nt) (K:=K) (H:=H) T Y X W (by simp only[aN,a]at h;rw[a];exact h);simp only[aN,a];rw[a]at this;exact this
 |alloc=>exact zxl T Y X W a h
 |box=>exact zBr T Y X W a h
 |buildSlice=>exact zqI T Y X W a h
 |store=>exact zxz T Y X W a h
 |pick=>exact zyO T Y X W a h
 |makeSlice=>exact zrc T Y X W a h
 |move=>exact ztv T Y X W (.inl a) h
 |assign=>exact ztv T Y X W (.inr a) h
 |convert s t x=>
  simp only[aN,a]at h⊢;rcases h with h|⟨q,l,I,r,F⟩
  ·exact .inl (JM T Y X W h)
  ·refine .inr ⟨q,l,I,?_,oS F T.ds (λs k m=>by cases m) vg⟩;rw[<-r];cases x with
   |tmp u=>simp only[GQ,X.s u (Y.of (x:=.tmp u) (by simp[a,Op.operands]) u (by simp[ec]))]
   |_=>rfl
 |call c=>
  obtain⟨D,args,N⟩:=c;cases D with
  |value L=>exact zyw T Y X W a h
  |builtin b=>
   cases b with
   |append=>exact zvL T Y X W a h
   |copy=>exact zzq T Y X W a h
   |_=>simp only[aN,a]at h⊢;exact JM T Y X W h
  |_=>simp only[aN,a]at h⊢;exact JM T Y X W h
 |_=>simp only[aN,a]at h⊢;exact JM T Y X W h
theorem zBp(h:nj P nt pre o K (U.bt fr) H):nj P nt pre o (λf h=>K (U.bt f) h/\mZ e o fr H f h) fr H:=by
 have q:∀j b,o.guard=J (j,b)->pz (U.bt fr) pre j=pz fr pre j:=by
  intro j b a;unfold pz;cases n:pre[j]? with
  |none=>rfl
  |some d=>
   cases d with
   |none=>rfl
   |some d=>
    simp only;rw[X.s d (Y.sl d (zp _ (by simp[Vf,a,n])))]
 unfold nj at h⊢;cases a:o.guard with
 |none=>rw[a]at h;exact Xj T Y X W h
 |some p=>
  obtain⟨j,b⟩:=p;rw[a]at h;simp only[q j b a]at h⊢;cases l:pz fr pre j with
  |none=>rw[l]at h;cases h
  |some y=>
   rw[l]at h;simp only at h⊢;split at h
   ·rename_i i;rw[aE i];exact Xj T Y X W h
   ·rename_i i;rw[aA i];exact oS h T.ds (λs k m=>by cases m) vg
end
section
variable {P:Program}{nt:Nat}{pre:List (Option Tmp)}{e:DE}{o:Oper}{f g fr:FR}{H:AH}{U:ce}{K:FR->AH->Prop}
variable{d:Option Tmp}{x:FV}
theorem zzp{x:Operand}{v:Value}{j:FR}{k:AH}(S:∀t,t∈ec x->f t=fr t)(n:∀t,t∈ec x->∀l i cs,fr t≠.ls l i cs)(m:bm fr H x=J (v,j,k))(h:AH):bm f h x=J (v,f,h):=by
 have a:=((qX m).2.2 n).2.2;cases x with
 |tmp t=>
  simp only[aZ]at a;simp only[bm,S t (by simp[ec])];cases b:fr t with
  |v y=>rw[b]at a;cases a;rfl
  |_=>rw[b]at a;cases a
 |const c=>simp only[bm];simp only[aZ]at a⊢;rw[a];rfl
 |func c=>simp only[bm];simp only[aZ]at a⊢;rw[a];rfl
 |global c=>cases a
theorem ZP:∀{xs:List Operand}{k:List Value}{n:FR}{p:AH}(_:∀t,t∈xs.flatMap ec->f t=fr t) (_:∀t,t∈xs.flatMap ec->∀l q cs,fr t≠.ls l q cs) (_:cz fr H xs=J (k,n,p)) (h:AH),cz f h xs=J (k,f,h):=by
 intro xs;induction xs with
 |nil=>intro k n p _ _ a h;cases a;rfl
 |cons x xs ih=>
  intro k n p S j a h;simp only[Qw,ke]at S j;simp only[cz]at a;cases i:bm fr H x with
  |none=>rw[i]at a;cases a
  |some r=>
   obtain⟨v,s,u⟩:=r;have w:=(qX i).2.2 λt b=>j t (.inl b)
   obtain⟨rfl,rfl,_⟩:=w;rw[i]at a;simp only at a;cases m:cz s u xs with
   |none=>rw[m]at a;cases a
   |some r=>
    obtain⟨y,z,A⟩:=r;rw[m]at a;cases a;simp only[cz,zzp (λt b=>S t (.inl b)) (λt b=>j t (.inl b)) i h,ih (λt b=>S t (.inr b)) (λt b=>j t (.inr b)) m h]
theorem zAP(h:bu nt K d x fr H):(∀t,d=J t->t<nt)/\K ((ce.of d x).bt fr) H:=by
 cases d with
 |none=>exact⟨λ_ h=>(by cases h),h⟩
 |some d=>
  simp only[bu]at h;split at h
  ·rename_i hd;exact⟨λt e=>by cases e;exact hd,h⟩
  ·cases h
theorem zAz(hd:∀t,d=J t->t<nt)(h:K ((ce.of d x).bt fr) H):bu nt K d x fr H:=by
 cases d with
 |none=>exact h
 |some d=>simp only[bu];rw[aE (hd d rfl)];exact h
theorem zDh :(ce.of d x).dst=d.toList:=by cases d<;>rfl
theorem zDV{t s k:Nat}(h:ce.of d x=.put t (.lp s k)):x=.lp s k:=by
 cases d with
 |none=>cases h
 |some d=>simp only[ce.of,ce.put.injEq]at h;exact h.2
def Eb(_:Program)(_:Nat)(e:DE)(o:Oper)(fr:FR)(H:AH)(K:FR->AH->Prop)(b:(FR->AH->Prop)->FR->AH->Prop):Prop:=
 ∃U:ce,U.dst=o.dst.toList/\(∀d s k,U=.put d (.lp s k)->s∈e.rg)/\K (U.bt fr) H/\
  ∀(f:FR) (h:AH) (a:FR->AH->Prop),pW e f fr->(DX o.op=O->e.rg=[]->fL H h)->a (U.bt f) h->b a f h
theorem AW{b:(FR->AH->Prop)->FR->AH->Prop}(n:∀s k,x=.lp s k->s∈e.rg)(h:bu nt K o.dst x fr H)
(l:∀(f:FR) (h:AH) (a:FR->AH->Prop),pW e f fr->(DX o.op=O->e.rg=[]->fL H h)->bu nt a o.dst x f h->b a f h):Eb P nt e o fr H K b:=by
 have:=zAP h;exact⟨ce.of o.dst x,zDh,λd s k m=>n s k (zDV m),this.2,λf h a X j i=>l f h a X j (zAz this.1 i)⟩
variable (Y:WF pre e o) (S:Sq e o=O) (W:j8 e fr=O)
include Y S W
theorem RQ:e.ext=Z/\sx o.op=Z/\sK o.op=Z:=by
 simp only[Sq,bC,sr]at S;exact⟨S.1.1,S.1.2,S.2⟩
theorem PW{xs:List Operand}(j:iA o.op=J xs)(h:dK P nt o K fr H):Eb P nt e o fr H K (dK P nt o):=by
 have i:=WZ j;have a:=RQ Y S W;unfold dK at h;rw[j]at h;simp only at h;cases b:cz fr H xs with
 |none=>rw[b]at h;cases h
 |some r=>
  obtain⟨u,f,z⟩:=r;obtain⟨rfl,rfl⟩:=N8 Y W i b a.1 a.2.1;rw[b]at h;simp only at h;cases m:fk P o.op u with
  |none=>rw[m]at h;cases h
  |some v=>
   rw[m]at h;refine AW (λs k q=>by cases q) h λy n w X _ p=>?_
   unfold dK;rw[j];simp only;rw[ZP (λt l=>X.s t (Y.eZ i t l)) (λt l=>AN Y W a.1 a.2.1 t (Y.eZ i t l)) b n];simp only[m];exact p
theorem XH(h:aN P nt o K fr H):Eb P nt e o fr H K (aN P nt o):=by
 have E:=RQ Y S W
 have uK:(∀K fr H,aN P nt o K fr H=dK P nt o K fr H)->Eb P nt e o fr H K (aN P nt o):=by
  intro m;have e1:aN P nt o=dK P nt o:=by funext K fr H;exact m K fr H
  rw[e1]at h⊢;cases hp:iA o.op with
  |none=>unfold dK at h;rw[hp]at h;cases h
  |some xs=>exact PW Y S W hp h
 have SJ:(match iO P fr o.op with|some x=>bu nt K o.dst x fr H|none=>False)->(∀K fr H,(match iO P fr o.op with|some x=>bu nt K o.dst x fr H|none=>False)->aN P nt o K fr H)->Eb P nt e o fr H K (aN P nt o):=by
  intro h m;cases A:iO P fr o.op with
  |none=>rw[A]at h;cases h
  |some yx1=>
   rw[A]at h;refine AW (λs k p=>ZW Y W (by rw[A,p])) h λr n C X _ q=>?_
   apply m
   have e2:iO P r o.op=iO P fr o.op:=by
    cases i:o.op<;>simp only[iO]
    ·rename_i x;rw[sg X W (Y.of (by simp[i,Op.operands]))]
    ·rename_i t x f;rw[sg X W (Y.of (by simp[i,Op.operands]))]
    ·rename_i t x ix1;rw[sg X W (Y.of (by simp[i,Op.operands])),nF X (Y.of (by simp[i,Op.operands]))]
   rw[e2,A];exact q
 cases i:o.op with
 |load t a=>
  have B:∀t,t∈ec a->t∈e.sl:=Y.of (by simp[i,Op.operands])
  have m:∀K fr H,aN P nt o K fr H=match nv P t (mI fr H a)with|some v=>bu nt K o.dst (.v v) fr H|none=>False:=by
   intro K fr H;simp only[aN,i];rfl
  rw[m]at h;cases A:nv P t (mI fr H a)with
  |none=>rw[A]at h;cases h
  |some v=>
   rw[A]at h;refine AW (λs k p=>by cases p) h λr n C X L q=>?_
   rw[m]
   have hne:∃cs,mI fr H a=J cs:=by
    cases hl:mI fr H a with
    |none=>rw[hl]at A;unfold nv at A;split at A<;>simp_all
    |some cs=>exact⟨cs,rfl⟩
   obtain⟨cs,D⟩:=hne
   have e2:mI r n a=mI fr H a:=by
    rw[D];unfold mI at D⊢;rw[sg X W B];cases w:bO fr a with
    |none=>rw[w]at D;cases D
    |some yx1=>
     rw[w]at D;cases yx1 with
     |lp s k=>
      obtain⟨y,c2,G⟩:=AQ W B w;simp only at D⊢;rw[G]at D;rw[(X.r s y c2).2 G];exact D
     |v yx1=>
      cases yx1<;>try (cases D;done)
      rename_i px1;cases px1 with
      |none=>cases D
      |some px1=>
       obtain⟨id,off,sp⟩:=px1;cases sp with
       |some _=>cases D
       |none=>
        have hrg:e.rg=[]:=by
         rcases Y.mr (.inl (by rw[i];rfl))with I|⟨u,I,h5⟩
         ·exact I
         ·exfalso;simp only[j8,bC]at W;have h6:=W.2;rw[I]at h6;simp only[Ff]at h6;rw[i]at h5;cases a with
          |tmp u'=>
           simp only[C8,aS]at h5;subst h5;simp only[bO]at w;cases n5:fr u' with
           |loc cs=>rw[n5]at w;cases w
           |lp s k=>rw[n5]at w;simp only at w;split at w<;>cases w
           |v yx1=>rw[n5]at h6;cases h6
           |skip=>rw[n5]at w;cases w
           |ls=>rw[n5]at h6;cases h6
          |_=>simp[C8]at h5
        have hE:=L (by rw[i];rfl) hrg;simp only[AH.load,bL]at D⊢;obtain⟨b,h7,h8⟩:=D;exact⟨b,hE.2 id b h7,h8⟩
     |_=>cases D
   rw[e2,A];exact q
 |fieldAddr=>exact SJ (by simp only[aN,i]at h;rw[i];exact h) (λK fr H p=>by simp only[aN,i];rw[i]at p;exact p)
 |indexAddr t x ix1=>
  have y:=h;simp only[aN,i]at y;rcases y with y|⟨u,l,F,cs,k,j,el,g,z,rfl,a2,_⟩
  ·exact SJ (by rw[i];exact y) (λK fr H p=>by simp only[aN,i];rw[i]at p;exact .inl p)
  ·exact absurd a2 (AN Y W E.1 E.2.1 u (Y.of (x:=.tmp u) (by simp[i,Op.operands]) u (by simp[ec])) l F cs)
 |nilCheck=>exact SJ (by simp only[aN,i]at h;rw[i];exact h) (λK fr H p=>by simp only[aN,i];rw[i]at p;exact p)
 |alloc t=>
  have m:∀K fr H,aN P nt o K fr H=match cE P t,o.dst with
   |some (_,_,_,z),J d=>if d<nt/\z.all cD=O then K (fr.fh d z) H else False
   |_,_=>False:=by intro K fr H;simp only[aN,i];rfl
  rw[m]at h;split at h
  ·rename_i a1 a2 a3 z d M hd;split at h
   ·rename_i lU;refine⟨.loc d z,by simp[ce.dst,hd],λ_ _ _ p=>(by cases p),h,λr n C _ _ q=>?_⟩;rw[m,M,hd];simp only;rw[aE lU];exact q
   ·cases h
  ·cases h
 |box t x=>
  have m:∀K fr H,aN P nt o K fr H=match cE P t,aZ fr x,o.dst with
   |some _,J v,J d=>if d<nt/\m8 v=O then K (fr.fh d v.cells.toList) H else False
   |_,_,_=>False:=by intro K fr H;simp only[aN,i];rfl
  rw[m]at h;split at h
  ·rename_i z v d M A hd;split at h
   ·rename_i lU;refine⟨.loc d v.cells.toList,by simp[ce.dst,hd],λ_ _ _ p=>(by cases p),h,λr n C X _ q=>?_⟩;rw[m,M,hd,nF X (Y.of (x:=x) (by simp[i,Op.operands])),A];simp only;rw[aE lU];exact q
   ·cases h
  ·cases h
 |buildSlice t len ps=>
  have hm:∀x,x∈ps.toList.map (·.2)->x∈o.op.operands.toList:=by intro x B;simpa[i,Op.operands]using B
  have m:∀K fr H,aN P nt o K fr H=match df P t,o.dst,cz fr H (ps.toList.map (·.2))with
   |some e,J d,J (vs,aj,H')=>match cE P e with
    |some (_,F,_,z)=>if d<nt/\len*F<=2^24/\z.length=F/\F≠0/\z.all cD=O then
     match jI (λix1=>J (ix1*F,F)) ((ps.toList.map (·.1)).zip vs) ((List.replicate len z).flatten)with
     |some cs=>K (aj.put d (.ls len F cs)) H'
     |none=>False
     else False
    |none=>False
   |_,_,_=>False:=by intro K fr H;simp only[aN,i];rfl
  rw[m]at h;cases y:df P t with
  |none=>rw[y]at h;cases h
  |some el=>
   cases hd:o.dst with
   |none=>rw[y,hd]at h;cases h
   |some d=>
    cases B:cz fr H (ps.toList.map (·.2))with
    |none=>rw[y,hd,B]at h;cases h
    |some rx1=>
     obtain⟨vs,f,h'⟩:=rx1;obtain⟨rfl,rfl⟩:=N8 Y W hm B E.1 E.2.1;rw[y,hd,B]at h;simp only at h;cases M:cE P el with
     |none=>rw[M]at h;cases h
     |some z=>
      obtain⟨gg,F,b,z⟩:=z;rw[M]at h;simp only at h;split at h
      ·rename_i lU;cases hf:jI (λix1=>J (ix1*F,F)) ((ps.toList.map (·.1)).zip vs) ((List.replicate len z).flatten)with
       |none=>rw[hf]at h;cases h
       |some cs=>
        rw[hf]at h;refine⟨.put d (.ls len F cs),by simp[ce.dst,hd],λ_ _ _ p=>(by cases p),h,λr n C X _ q=>?_⟩;rw[m,y,hd,ZP (λt ht=>X.s t (Y.eZ hm t ht)) (λt ht=>AN Y W E.1 E.2.1 t (Y.eZ hm t ht)) B n];simp only[M];rw[aE lU,hf];exact q
      ·cases h
 |pick c a b=>
  have xd:=λ{r:FR}(X:pW e r fr)=>nF X (Y.of (x:=c) (by simp[i,Op.operands]))
  have ha':=λ{r:FR}(X:pW e r fr)=>nF X (Y.of (x:=a) (by simp[i,Op.operands]))
  have gY:=λ{r:FR}(X:pW e r fr)=>nF X (Y.of (x:=b) (by simp[i,Op.operands]))
  have m:∀K fr H,aN P nt o K fr H=match aZ fr c with
   |some (.bool O)=>match aZ fr a with
    |some v=>bu nt K o.dst (.v v) fr H
    |none=>False
   |some (.bool Z)=>match aZ fr b with
    |some v=>bu nt K o.dst (.v v) fr H
    |none=>False
   |_=>False:=by intro K fr H;simp only[aN,i];rfl
  rw[m]at h;split at h
  ·rename_i TV;split at h
   ·rename_i v A;refine AW (λs k p=>by cases p) h λr n C X _ q=>?_
    rw[m,xd X,TV];simp only;rw[ha' X,A];exact q
   ·cases h
  ·rename_i TV;split at h
   ·rename_i v A;refine AW (λs k p=>by cases p) h λr n C X _ q=>?_
    rw[m,xd X,TV];simp only;rw[gY X,A];exact q
   ·cases h
  ·cases h
 |makeSlice=>exact absurd (Y.call (.inr (by rw[i];rfl))) (by rw[E.1];decide)
 |store=>have:=E.2.2;rw[i]at this;cases this
 |move x=>
  have B:∀t,t∈ec x->t∈e.sl:=Y.of (by simp[i,Op.operands])
  have m:∀K fr H,aN P nt o K fr H=match bO fr x with
   |some (.lp s off)=>bu nt K o.dst (.lp s off) fr H
   |_=>dK P nt o K fr H:=by intro K fr H;simp only[aN,i];rfl
  rw[m]at h;split at h
  ·rename_i s k w;refine AW (λs' k' p=>by cases p;exact(AQ W B w).1) h λr n C X _ q=>?_
   rw[m,sg X W B,w];exact q
  ·rename_i w;obtain⟨U,y,n,G,I⟩:=PW Y S W (xs:=[x]) (by rw[i];rfl) h;refine⟨U,y,n,G,λr n C X L q=>?_⟩;rw[m,sg X W B];have:=I r n C X L q;split
   ·rename_i s k iu;exact absurd iu (w s k)
   ·exact this
 |assign x=>
  have B:∀t,t∈ec x->t∈e.sl:=Y.of (by simp[i,Op.operands])
  have m:∀K fr H,aN P nt o K fr H=match bO fr x with
   |some (.lp s off)=>bu nt K o.dst (.lp s off) fr H
   |_=>dK P nt o K fr H:=by intro K fr H;simp only[aN,i];rfl
  rw[m]at h;split at h
  ·rename_i s k w;refine AW (λs' k' p=>by cases p;exact(AQ W B w).1) h λr n C X _ q=>?_
   rw[m,sg X W B,w];exact q
  ·rename_i w;obtain⟨U,y,n,G,I⟩:=PW Y S W (xs:=[x]) (by rw[i];rfl) h;refine⟨U,y,n,G,λr n C X L q=>?_⟩;rw[m,sg X W B];have:=I r n C X L q;split
   ·rename_i s k iu;exact absurd iu (w s k)
   ·exact this
 |call c=>
  obtain⟨callee,args,N⟩:=c;cases callee with
  |value fn=>exact absurd (Y.call (.inl (by rw[i];rfl))) (by rw[E.1];decide)
  |builtin b=>
   cases b with
   |append=>have:=E.2.1;rw[i]at this;cases this
   |copy=>exact absurd (Y.call (.inl (by rw[i];rfl))) (by rw[E.1];decide)
   |_=>exact uK (λK fr H=>by simp only[aN,i])
  |_=>exact uK (λK fr H=>by simp only[aN,i])
 |convert s t x=>
  have m:∀K fr H,aN P nt o K fr H=(dK P nt o K fr H\/((uu P s=O/\eS P t=O/\o.dst.isSome=O)/\∃l ns,GQ fr x=J (l,ns.map (Value.int .u8))/\bu nt K o.dst (.v (.string (xV ns))) fr H)):=by intro K fr H;simp only[aN,i]
  rw[m]at h;rcases h with h|⟨y,l,ns,n,G⟩
  ·obtain⟨U,y,n,G,I⟩:=PW Y S W (xs:=[x]) (by rw[i];rfl) h;refine⟨U,y,n,G,λr n C X L q=>?_⟩;rw[m];exact .inl (I r n C X L q)
  ·exfalso;cases x with
   |tmp u=>
    simp only[GQ]at n;cases hf:fr u with
    |ls len F cells=>exact AN Y W E.1 E.2.1 u (Y.of (x:=.tmp u) (by simp[i,Op.operands]) u (by simp[ec])) _ _ _ hf
    |_=>rw[hf]at n;cases n
   |_=>cases n
 |_=>exact uK (λK fr H=>by simp only[aN,i])
theorem zzt(h:nj P nt pre o K fr H):Eb P nt e o fr H K (nj P nt pre o):=by
 have A:∀{f:FR}(_:pW e f fr) j b,o.guard=J (j,b)->pz f pre j=pz fr pre j:=by
  intro f X j b a;unfold pz;cases C:pre[j]? with
  |none=>rfl
  |some d=>
   cases d with
   |none=>rfl
   |some d=>
    simp only;rw[X.s d (Y.sl d (zp _ (by simp[Vf,a,C])))]
 unfold nj at h;cases a:o.guard with
 |none=>
  rw[a]at h;obtain⟨U,u,i,v,w⟩:=XH Y S W h;refine⟨U,u,i,v,λn i m X z l=>?_⟩;unfold nj;rw[a];exact w n i m X z l
 |some p=>
  obtain⟨j,b⟩:=p;rw[a]at h;simp only at h;cases q:pz fr pre j with
  |none=>rw[q]at h;cases h
  |some y=>
   rw[q]at h;simp only at h;split at h
   ·rename_i r;obtain⟨U,u,i,v,w⟩:=XH Y S W h;refine⟨U,u,i,v,λn i m X z l=>?_⟩;unfold nj;rw[a];simp only;rw[A X j b a,q];simp only;rw[aE r];exact w n i m X z l
   ·rename_i r;refine AW (λs k B=>by cases B) h λn i m X _ l=>?_
    unfold nj;rw[a];simp only;rw[A X j b a,q];simp only;rw[aA r];exact l
end
theorem Ri{xs a:List Nat}(h:KI xs a=O):∀t,t∈xs->t∉a:=by
 intro t b i;simp only[KI,bc]at h;have:=h t b;simp[i]at this
section
variable {P:Program}{nt:Nat}{pre:List (Option Tmp)}{K:FR->AH->Prop}{fr:FR}{H:AH}
theorem Xl{e:DE}{o:Oper}{K R:FR->AH->Prop}(b:∀fr H,K fr H->R fr H){fr:FR}{H:AH}(h:vu P nt pre e o K fr H):vu P nt pre e o R fr H:=
 ⟨h.1,TD (λfr H a=>⟨a.1,b fr H a.2⟩) h.2⟩
theorem zxP:∀{l:List (DE×Oper)}{K R:FR->AH->Prop}(_:∀fr H,K fr H->R fr H) {fr:FR}{H:AH},iE P nt pre l K fr H->iE P nt pre l R fr H:=by
 intro l;induction l with
 |nil=>intro K R a fr H h;exact a _ _ h
 |cons p l ih=>intro K R a fr H h;exact Xl (λ_ _ b=>ih a b) h
theorem swap{x y:DE}{p q:Oper}(m:WF pre x p)(wy:WF pre y q)(M:EI x p y q=O)(h:vu P nt pre x p (vu P nt pre y q K) fr H):vu P nt pre y q (vu P nt pre x p K) fr H:=by
 simp only[EI,bC]at M;obtain⟨⟨⟨⟨⟨D,h2⟩,h3⟩,v⟩,E⟩,A⟩:=M;have r:=RQ m D h.1;have d1:=Ri h2;have d2:=Ri h3;simp only[ke,not_or]at d1 d2
 obtain⟨U,hd,He,⟨I,hy⟩,dX⟩:Eb P nt x p fr H (vu P nt pre y q K) (nj P nt pre p):=by
  refine zzt m D h.1 ?_;exact TD (λ_ _ a=>a.2) h.2
 have T:Vd U y q:=by
  refine⟨λt b=>?_,λs S=>?_,λt b=>?_,λd s k hu S=>(d2 s S).2 (He d s k hu)⟩
  ·rw[hd];intro a;exact(d1 t a).1.1 b
  ·rw[hd];intro a;exact(d1 s a).1.2 S
  ·rw[hd];intro a;exact(d1 t a).2 b
 have X:pW y (U.bt fr) fr:=zAx T.sl T.rg I
 have B:j8 y fr=O:=by
  rw[<-zqX X wy.mrs];exact I
 refine⟨B,?_⟩;refine TD ?_ (zBp T wy X B hy);rintro f u ⟨⟨F,hK⟩,w⟩;refine⟨F,?_⟩
 have G:pW x f fr:=by
  have C:∀t,t∈x.sl\/t∈x.rg->sK q.op=O->t∉y.rg:=by
   intro t b S l;simp only[S,oI,a1z]at E;have:=Ri E t l;simp only[ke,not_or]at this;rcases b with b|b
   ·exact this.1 b
   ·exact this.2 b
  refine⟨λt b=>?_,λs S cs=>?_⟩
  ·refine w.s t (λa=>(d2 t a).1 b) (C t (.inl b)) (AN m h.1 r.1 r.2.1 t b) ?_;intro d k hdq hf;have j:=h.1;simp only[j8,bC]at j;have j:=Fb j.1 t b;rw[hf]at j;exact(d2 d hdq).2 (P9 j)
  ·exact w.r s (λa=>(d2 s a).2 S) (C s (.inr S)) cs
 have hL:DX p.op=O->x.rg=[]->fL H u:=by
  intro L l;simp only[L,l,List.isEmpty_nil,Qx,oI,a1z]at A;simp only[L,l,List.isEmpty_nil,Qx,oI,a1z,bC,sr,xK]at v;cases n:y.ext with
  |true=>exact F (by simp only[DE.ex,n,A,Qx])
  |false=>
   rw [w.h n v.1 λS => by rcases v.2 with(i|i)|i
                          ·rw[S]at i;cases i
                          ·intro h7;rw[h7]at i;cases i
                          ·rw[n]at i;cases i]
   exact .refl H
 have:=dX f u (λaj z=>(x.ex=O->fL u z)/\K aj z) G hL ⟨λa=>(by simp only[DE.ex,r.1,a1A]at a;cases a),hK⟩;refine⟨?_,this⟩;rw[zqX G m.mrs];exact h.1
end
def TQ(bs:List Nat)(o:Oper):Nat:=o.after.toList.foldl (λs e=>if Region.binds .any e then s|||2^e.on|||bs.getD e.on 0 else s) 0
def L4:List Oper->List Nat->List Nat
 |[],bs=>bs
 |o::r,bs=>L4 r (bs++[TQ bs o])
def PY(bs:List Nat)(xs:List (Nat×Nat))(j:Nat)(o:Oper):Nat:=xs.foldl (λs p=>if p.2=j then s|||2^p.1|||bs.getD p.1 0 else s) (TQ bs o)
def Tv(ops:List Oper)(xs:List (Nat×Nat)):Nat->List Nat->List Nat
 |0,bs=>bs
 |n+1,bs=>Tv ops xs n ((List.range ops.length).map λj=>PY bs xs j (ops.getD j default))
def C9(ops:List Oper)(bs:List Nat):List DE->Bool
 |[]=>O
 |x::r=>(r.all λy=>y.i !=x.i&&((bs.getD y.i 0).testBit x.i||EI x (ops.getD x.i default) y (ops.getD y.i default)))&&C9 ops bs r
def KG(D:List DE)(ops:List Oper)(xs:List (Nat×Nat):=[]):Bool:=
 let bs:=if xs.isEmpty then L4 ops []else Tv ops xs 6 (L4 ops [])
 let pre:=ops.map (·.dst)
 (D.length==ops.length)&&(xs.all λp=>Nat.blt p.1 ops.length&&p.1 !=p.2)&&
 ((List.range ops.length).all λj=>bs.getD j 0==PY bs xs j (ops.getD j default)&&((ops.getD j default).after.toList.all λe=> !Region.binds .any e||Nat.blt e.on j)&&(D.map (·.i)).contains j)&&
 (D.all λx=>Nat.blt x.i ops.length&&RP pre x (ops.getD x.i default))&&C9 ops bs D
def Dr(h:List DE->Prop)(ops:List Oper):Nat->List (Nat×Nat)->Prop
 |0,xs=>∃D:List DE,KG D ops xs=O/\h D
 |n+1,xs=>∃a b,a≠b/\Dr h ops n ((a,b)::xs)/\Dr h ops n ((b,a)::xs)
theorem UJ{j i:List DE->Prop}{ops:List Oper}(p:∀D,j D->i D):∀{n:Nat}{xs:List (Nat×Nat)},Dr j ops n xs->Dr i ops n xs:=by
 intro n;induction n with
 |zero=>intro xs ⟨D,h,k⟩;exact⟨D,h,p D k⟩
 |succ n ih=>intro xs ⟨a,b,h,l,m⟩;exact⟨a,b,h,ih l,ih m⟩
def Mx(P:Program)(nt:Nat)(ops:Array Oper)(K:FR->AH->Prop)(fr:FR)(H:AH):Prop:=
 P.follows .mixedOrders=O/\∃n,Dr (λD=>iE P nt (ops.toList.map (·.dst)) (D.map λx=>(x,ops.toList.getD x.i default)) K fr H) ops.toList n []
theorem zws{P:Program}{nt:Nat}{ops:Array Oper}{K R:FR->AH->Prop}(i:∀fr H,K fr H->R fr H){fr:FR}{H:AH}(h:Mx P nt ops K fr H):Mx P nt ops R fr H:=
 let⟨a,n,b⟩:=h;⟨a,n,UJ (λ_=>zxP i) b⟩
theorem zAH{bs:List Nat}{o:Oper}{x:Nat}(h:(TQ bs o).testBit x=O):∃e,e∈o.after.toList/\Region.binds .any e=O/\(e.on=x\/(bs.getD e.on 0).testBit x=O):=by
 have k:∀(l:List Edge) (s:Nat),(l.foldl (λs e=>if Region.binds .any e then s|||2^e.on|||bs.getD e.on 0 else s) s).testBit x=O->s.testBit x=O\/∃e,e∈l/\Region.binds .any e=O/\(e.on=x\/(bs.getD e.on 0).testBit x=O):=by
  intro l;induction l with
  |nil=>intro s h;exact .inl h
  |cons e l ih=>
   intro s h;simp only[Qt]at h;rcases ih _ h with a|⟨i,a,j⟩
   ·split at a
    ·rename_i b;rw[Wj,Wj]at a;simp only[xK]at a;rcases a with(a|a)|a
     ·exact .inl a
     ·rw[a5K]at a;exact .inr ⟨e,qQ ..,b,.inl (by simpa using a)⟩
     ·exact .inr ⟨e,qQ ..,b,.inr a⟩
    ·exact .inl a
   ·exact .inr ⟨i,oH _ a,j⟩
 rcases k _ _ h with h|h
 ·simp at h
 ·exact h
section
variable {P:Program}{nt:Nat}{pre:List (Option Tmp)}{K:FR->AH->Prop}
theorem zMg{q:DE×Oper}(l:WF pre q.1 q.2){B:List (DE×Oper)}:∀{A:List (DE×Oper)}{fr:FR}{H:AH}(_:∀p,p∈A->WF pre p.1 p.2/\EI p.1 p.2 q.1 q.2=O) (_:iE P nt pre (A++q::B) K fr H),iE P nt pre (q::(A++B)) K fr H:=by
 intro A;induction A with
 |nil=>intro fr H _ h;exact h
 |cons p A ih=>
  intro fr H b h;have j:vu P nt pre p.1 p.2 (iE P nt pre (q::(A++B)) K) fr H:=Xl (λfr H k=>ih (λp i=>b p (oH _ i)) k) h;have a:=b p (qQ ..);exact swap a.1 l a.2 j
theorem zzw{bs:List Nat}{xs:List (Nat×Nat)}{j:Nat}{o:Oper}{x:Nat}(h:(PY bs xs j o).testBit x=O):(∃e,e∈o.after.toList/\Region.binds .any e=O/\(e.on=x\/(bs.getD e.on 0).testBit x=O))\/∃p,p∈xs/\p.2=j/\(p.1=x\/(bs.getD p.1 0).testBit x=O):=by
 have m:∀(l:List (Nat×Nat)) (s:Nat),(l.foldl (λs p=>if p.2=j then s|||2^p.1|||bs.getD p.1 0 else s) s).testBit x=O->s.testBit x=O\/∃p,p∈l/\p.2=j/\(p.1=x\/(bs.getD p.1 0).testBit x=O):=by
  intro l;induction l with
  |nil=>intro s h;exact .inl h
  |cons e l ih=>
   intro s h;simp only[Qt]at h;rcases ih _ h with a|⟨i,a,k⟩
   ·split at a
    ·rename_i b;rw[Wj,Wj]at a;simp only[xK]at a;rcases a with(a|a)|a
     ·exact .inl a
     ·rw[a5K]at a;exact .inr ⟨e,qQ ..,b,.inl (by simpa using a)⟩
     ·exact .inr ⟨e,qQ ..,b,.inr a⟩
    ·exact .inl a
   ·exact .inr ⟨i,oH _ a,k⟩
 rcases m _ _ h with h|h
 ·exact .inl (zAH h)
 ·exact .inr h
theorem zwW{ops:List Oper}{bs:List Nat}{x:DE}{B:List DE}:∀{A:List DE},C9 ops bs (A++x::B)=O->
 (∀y,y∈A->x.i≠y.i/\((bs.getD x.i 0).testBit y.i=O\/EI y (ops.getD y.i default) x (ops.getD x.i default)=O))/\(∀y,y∈B->y.i≠x.i)/\C9 ops bs (A++B)=O:=by
 intro A;induction A with
 |nil=>
  intro h;simp only[nb,C9,bC,bc]at h;refine⟨λ_ b=>(by cases b),λy b=>?_,h.2⟩;have:=(h.1 y b).1;simpa using this
 |cons a A ih=>
  intro h;simp only[tJ,C9,bC,bc,xK]at h⊢;obtain⟨i,j,k⟩:=ih h.2;refine⟨λy b=>?_,j,λy b=>?_,k⟩
  ·rcases gp.1 b with rfl|b
   ·have:=h.1 x (by simp);exact⟨by simpa using this.1,this.2⟩
   ·exact i y b
  ·refine h.1 y ?_;rcases ke.1 b with b|b
   ·exact tI _ b
   ·exact zp _ (oH _ b)
end
structure Inv (ops:List Oper) (bs:List Nat) (dn:Array Bool) (L:List DE):Prop where
 sz:dn.size=ops.length
 a3i:C9 ops bs L=O
 wf:∀x,x∈L->x.i<ops.length/\WF (ops.map (·.dst)) x (ops.getD x.i default)
 cov:∀i,i<ops.length->dn.getD i O=O\/∃x,x∈L/\x.i=i
 un:∀x,x∈L->dn.getD x.i O=Z
 cl:∀j,j<ops.length->dn.getD j O=O->∀x,(bs.getD j 0).testBit x=O->dn.getD x Z=O
theorem Px(a:Array Bool)(d t:Nat)(u:Bool)(hd:d<a.size):(a.setIfInBounds d O).getD t u=if t=d then O else a.getD t u:=by
 simp only[xG,a1r];by_cases h:d=t
 ·subst h;simp[hd]
 ·rw[aA h,aA (λe=>h e.symm)]
section
variable {c:rV}{P:Program}{K:FR->AH->Prop}{Q:Exit->Act->World->Prop}{ops:Array Oper}{bs:List Nat}
def I1(ops:Array Oper):Nat->Array Bool->List Nat->Prop
 |0,_,s=>s=[]
 |n+1,a,s=>(s=[]/\Region.ready .any ops a=[])\/∃i b,s=i::b/\i∈Region.ready .any ops a/\I1 ops n (a.setIfInBounds i O) b
theorem zDc:∀(b t:Nat) (a:Array Bool),I1 ops b a (Region.linearise.go .any ops b t a []):=by
 intro b;induction b with
 |zero=>intro t a;rfl
 |succ b ih=>
  intro t a;simp only[Region.linearise.go]
  change I1 ops (b+1) a (match(Region.ready .any ops a)[t%(Region.ready .any ops a).length]? with
   |some i=>Region.linearise.go .any ops b (t/(Region.ready .any ops a).length) (a.setIfInBounds i O) [i]
   |none=>[].reverse)
  cases h:(Region.ready .any ops a)[t%(Region.ready .any ops a).length]? with
  |none=>
   refine .inl ⟨rfl,?_⟩;cases k:Region.ready .any ops a with
   |nil=>rfl
   |cons x xs=>
    rw[k]at h;have j:t%(x::xs).length<(x::xs).length:=nc _ (by simp);simp at h;simp at j;omega
  |some i=>
   simp only[];rw[linearise_go_acc,List.reverse_singleton,a1B];exact .inr ⟨i,_,rfl,eD h,ih _ _⟩
def bef(a b:Nat):List Nat->Bool
 |[]=>O
 |i::s=>if i=a then O else if i=b then Z else bef a b s
theorem zCM{a b:Nat}(h:a≠b):∀s,bef a b s=O\/bef b a s=O:=by
 intro s;induction s with
 |nil=>exact .inl rfl
 |cons i s ih=>
  simp only[bef];by_cases j:i=a
  ·exact .inl (aE j)
  ·by_cases k:i=b
   ·exact .inr (aE k)
   ·rw[aA j,aA k,aA k,aA j];exact ih
theorem ztV{xs:List (Nat×Nat)}(z:∀p,p∈xs->p.1<ops.toList.length/\p.1≠p.2)(nM:∀j,j<ops.toList.length->bs.getD j 0=PY bs xs j (ops.toList.getD j default))(hlt:∀j,j<ops.toList.length->∀e,e∈(ops.toList.getD j default).after.toList->Region.binds .any e=O->e.on<j)
(hn:∀m' aj H' a' w',K aj H'->aT c m' aj H' a' w'->Q .normal a' w'):∀(I:Nat) {s:List Nat}{k:Array Bool}{L:List DE}{mx1:Mu}{fr:FR}{H:AH}{a:Act}{w:World},
 L.length=I->I1 ops I k s->(∀p,p∈xs->k.getD p.1 O=O\/bef p.1 p.2 s=O)->Inv ops.toList bs k L->iE P c.nt (ops.toList.map (·.dst)) (L.map λx=>(x,ops.toList.getD x.i default)) K fr H->aT c mx1 fr H a w->wpOps P ops Q s a w:=by
 intro I
 have ki:∀{k:Array Bool}{i:Nat},i∈Region.ready .any ops k->i<ops.toList.length/\k.getD i O=Z/\∀e,e∈(ops.toList.getD i default).after.toList->Region.binds .any e=O->k.getD e.on Z=O:=by
  intro k i E;simp only[Region.ready,List.mem_filter,kT,bC,sr]at E;obtain⟨n,C,q⟩:=E;refine⟨by simpa using n,C,λe u v=>?_⟩;have l:ops[i]? =J ops[i]:=Ew n;rw[l]at q;simp only[mz,xH]at q;have r:ops.toList.getD i default=ops[i]:=by simp[List.getD,n]
  rw[r]at u;rw[Array.all_eq_true']at q;have:=q e (by simpa using u);simpa[v]using this
 have a3E:∀{k:Array Bool}{i:Nat},i<ops.toList.length->k.getD i O=Z->(∀e,e∈(ops.toList.getD i default).after.toList->Region.binds .any e=O->k.getD e.on Z=O)->i∈Region.ready .any ops k:=by
  intro k i n C q;have F:i<ops.size:=by simpa using n
  simp only[Region.ready,List.mem_filter,kT,bC,sr];refine⟨F,C,?_⟩;have l:ops[i]? =J ops[i]:=Ew F;have r:ops.toList.getD i default=ops[i]:=by simp[List.getD,F]
  rw[l];simp only[mz,xH];rw[Array.all_eq_true'];intro e u;rw[r]at q;cases v:Region.binds .any e with
  |false=>rfl
  |true=>simp[q e (by simpa using u) v]
 induction I with
 |zero=>
  intro s k L mx1 fr H a w M S hx m hd rx1;have:L=[]:=na M;subst this;cases S;exact hn mx1 fr H a w hd rx1
 |succ I ih=>
  intro s k L mx1 fr H a w M S Qm m hd rx1;rcases S with⟨_,Uu⟩|⟨i,s,rfl,E,mC⟩
  ·exfalso
   have qp:∀i,i<ops.toList.length->k.getD i O=O:=by
    intro i;induction i using Nat.strongRecOn with
    |ind i ihi=>
     intro E;by_cases W:k.getD i O=O
     ·exact W
     ·exfalso
      have:i∈Region.ready .any ops k:=by
       refine a3E E (by simpa using W) λe u v=>?_
       have n:=hlt i E e u v;have C:=ihi e.on n (by omega);have q:e.on<k.size:=by rw[m.sz];omega
       simp only[xG,Ew q,xH]at C⊢;exact C
      rw[Uu]at this;cases this
   cases L with
   |nil=>cases M
   |cons x L=>
    have n:=m.un x (qQ ..);rw[qp x.i (m.wf x (qQ ..)).1]at n;cases n
  ·obtain⟨n,C,q⟩:=ki E
   obtain⟨x,hx,CO⟩:∃x,x∈L/\x.i=i:=by
    rcases m.cov i n with h|h
    ·rw[C]at h;cases h
    ·exact h
   obtain⟨A,B,rfl⟩:=List.append_of_mem hx;subst CO;obtain⟨p1,p2,p3⟩:=zwW m.a3i
   have a0N:∀y,(bs.getD x.i 0).testBit y=O->k.getD y Z=O:=by
    intro y b;rw[nM _ n]at b;rcases zzw b with⟨e,u,v,h|h⟩|⟨p,D,G,h⟩
    ·rw[<-h];exact q e u v
    ·have a6E:=hlt _ n e u v;refine m.cl e.on (by omega) ?_ y h;have l:=q e u v;have r:e.on<k.size:=by rw[m.sz];omega
     simp only[xG,Ew r,xH]at l⊢;exact l
    ·have Bu:k.getD p.1 O=O:=by
      rcases Qm p D with l|l
      ·exact l
      ·simp only[bef]at l;rw[aA λe=>(z p D).2 (e.symm.trans G.symm),aE G.symm]at l;cases l
     rcases h with h|h
     ·rw[<-h];have r:p.1<k.size:=by rw[m.sz];exact(z p D).1
      simp only[xG,Ew r,xH]at Bu⊢;exact Bu
     ·exact m.cl p.1 (z p D).1 Bu y h
   have T:∀y,y∈A->EI y (ops.toList.getD y.i default) x (ops.toList.getD x.i default)=O:=by
    intro y b;have r:=m.un y (tI _ b);rcases(p1 y b).2 with h|h
    ·exfalso;have l:=a0N _ h;have h6:y.i<k.size:=by rw[m.sz];exact(m.wf y (tI _ b)).1
     simp only[xG,Ew h6,xH]at l r;rw[r]at l;cases l
    ·exact h
   have il:iE P c.nt (ops.toList.map (·.dst)) ((x,ops.toList.getD x.i default)::((A++B).map λx=>(x,ops.toList.getD x.i default))) K fr H:=by
    rw[lN,jO]at hd;rw[lN];refine zMg (m.wf x hx).2 ?_ hd;intro p D;obtain⟨y,b,rfl⟩:=jr.1 D;exact⟨(m.wf y (tI _ b)).2,T y b⟩
   have a2C:∀p,p∈xs->(k.setIfInBounds x.i O).getD p.1 O=O\/bef p.1 p.2 s=O:=by
    intro p D;have z:x.i<k.size:=by rw[m.sz];exact n
    rw[Px _ _ _ _ z];by_cases G:p.1=x.i
    ·exact .inl (aE G)
    ·rw[aA G];rcases Qm p D with l|l
     ·exact .inl l
     ·simp only[bef]at l;rw[aA λe=>G e.symm]at l;split at l
      ·cases l
      ·exact .inr l
   have hI':Inv ops.toList bs (k.setIfInBounds x.i O) (A++B):=by
    have z:x.i<k.size:=by rw[m.sz];exact n
    have Dd:∀y,y∈A++B->y∈A++x::B/\y.i≠x.i:=by
     intro y b;rcases ke.1 b with b|b
     ·exact⟨tI _ b,λe=>(p1 y b).1 e.symm⟩
     ·exact⟨zp _ (oH _ b),p2 y b⟩
    refine⟨by simpa using m.sz,p3,λy b=>m.wf y (Dd y b).1,λi hi'=>?_,λy b=>?_,λj hj Ki y b=>?_⟩
    ·rw[Px _ _ _ _ z];by_cases jj:i=x.i
     ·left;rw[aE jj]
     ·rw[aA jj];rcases m.cov i hi' with h|⟨y,b,FI⟩
      ·exact .inl h
      ·right;rcases ke.1 b with b|b
       ·exact⟨y,tI _ b,FI⟩
       ·rcases gp.1 b with rfl|b
        ·exact absurd FI.symm jj
        ·exact⟨y,zp _ b,FI⟩
    ·rw[Px _ _ _ _ z,aA (Dd y b).2];exact m.un y (Dd y b).1
    ·rw[Px _ _ _ _ z]at Ki⊢;by_cases hyx:y=x.i
     ·rw[aE hyx]
     ·rw[aA hyx];by_cases Ob:j=x.i
      ·subst Ob;exact a0N y b
      ·rw[aA Ob]at Ki;exact m.cl j hj Ki y b
   have F:x.i<ops.size:=by simpa using n
   have Ma:ops[x.i]? =J (ops.toList.getD x.i default):=by
    rw[Ew F];simp[List.getD,F]
   rw[wpOps_cons];unfold wpOp;rw[Ma];simp only
   have S:=zw3 (Q:=Q) (next:=wpOps P ops Q s) il.2 rx1 λm' aj H' a' w' hk r'=>
    ih (by simp at M⊢;omega) mC a2C hI' hk.2 r'
   split
   ·rename_i hw;rw[aE hw]at S;exact .inl S
   ·rename_i hw;rw[aA hw]at S;exact S
theorem ztU{id:Nat}{mx1:Mu}{fr:FR}{H:AH}{a:Act}{w:World}(h:Mx P c.nt ops K fr H)(rx1:aT c mx1 fr H a w)
(hn:∀m' y u v B,K y u->aT c m' y u v B->Q .normal v B):(Code.region id ops O).wp P Q a w:=by
 obtain⟨C,n,I⟩:=h;refine wp_region_draw λt=>?_
 have key:∀(s:List Nat),I1 ops ops.size (Array.replicate ops.size Z) s->∀n xs,Dr (λD=>iE P c.nt (ops.toList.map (·.dst)) (D.map λx=>(x,ops.toList.getD x.i default)) K fr H) ops.toList n xs->(∀p,p∈xs->bef p.1 p.2 s=O)->wpOps P ops Q s a {w with drawn:=w.drawn+1}:=by
  intro s S n;induction n with
  |zero=>
   rintro xs ⟨D,z,hd⟩ i;simp only[KG,bC,bc,kT]at z;obtain⟨⟨⟨⟨hlen,A⟩,r⟩,l⟩,F⟩:=z;refine ztV (xs:=xs) (bs:=if xs.isEmpty then L4 ops.toList []else Tv ops.toList xs 6 (L4 ops.toList [])) (λp b=>⟨a1C (A p b).1,by simpa using(A p b).2⟩) (λj k=>?_) (λj k e he M=>?_) hn ops.size (L:=D) (by simpa using hlen) S (λp b=>.inr (i p b)) ?_ hd rx1.drew
   ·simpa using(r j k).1.1
   ·exact by have:=(r j k).1.2 e he;rw[M]at this;simpa using this
   ·refine⟨by simp,F,λx i=>⟨a1C (l x i).1,zGX (l x i).2⟩,λix1 hi=>?_,λx i=>?_,λj k E=>?_⟩
    ·right;have:=(r ix1 hi).2;simpa[jr]using this
    ·have m:x.i<ops.toList.length:=a1C (l x i).1;have q:x.i<ops.size:=by simpa using m
     simp[xG,q]
    ·have q:j<ops.size:=by simpa using k
     simp[xG,q]at E
  |succ n ih=>
   rintro xs ⟨a,bx1,nZ,m,G⟩ i;rcases zCM nZ s with h|h
   ·exact ih _ m λp b=>by
     rcases gp.1 b with rfl|b
     ·exact h
     ·exact i p b
   ·exact ih _ G λp b=>by
     rcases gp.1 b with rfl|b
     ·exact h
     ·exact i p b
 unfold Region.schedule;rw[C,Bool.true_or,aE rfl];exact key _ (zDc _ _ _) n [] I λp b=>by cases b
end
def fW(P:Program)(nt:Nat):Code->(Exit->FR->AH->Prop)->FR->AH->Prop
 | .skip,Q=>Q .normal
 | .region _ ops a,Q=>if a=O then Mx P nt ops (Q .normal)else pP P nt (ops.toList.map (·.dst)) ops.toList (Q .normal)
 | .seq x y,Q=>fW P nt x (Qc (fW P nt y Q) Q)
 | .cond c t e,Q=>λfr H=>match aZ fr c with
  |some (.bool b)=>if b=O then fW P nt t Q fr H else fW P nt e Q fr H
  |_=>False
 | .block id b,Q=>fW P nt b (LM id Q)
 | .loop b,Q=>λfr H=>∃n,zut (fW P nt b) Q n fr H
 | .exit id,Q=>Q (.exit id)
 | .ret,Q=>Q .ret
 |_,_=>λ_ _=>False
def wb(P:Program)(fr:FR):ResultVar->Option Value
 | .tmp t=>match fr t with
  | .v x=>J x
  |_=>aa
 | .cell t b=>match fr t with
  | .loc a=>nv P b (J a)
  |_=>aa
def ta(P:Program)(fr:FR):List ResultVar->Option (List Value)
 |[]=>J []
 |x::xs=>match wb P fr x,ta P fr xs with
  |some v,J a=>J (v::a)
  |_,_=>aa
def D0:List Value->Value
 |[v]=>v
 |a=>.tuple a.toArray
inductive It where
 |code (c:Code)
 |ops (pre:List (Option Tmp)) (l:List Oper)
 |iE (pre:List (Option Tmp)) (l:List (DE×Oper))
 |chk (p:AH->Prop)
 |bn (id:Nat)
def vd(P:Program)(nt:Nat):List It->(Exit->FR->AH->Prop)->Exit->FR->AH->Prop
 |[],Q,e=>Q e
 |it::k,Q,e=>match e with
  | .normal=>match it with
   | .code c=>fW P nt c (vd P nt k Q)
   | .ops pre l=>pP P nt pre l (vd P nt k Q .normal)
   | .iE pre l=>iE P nt pre l (vd P nt k Q .normal)
   | .chk p=>λfr H=>p H/\vd P nt k Q .normal fr H
   | .bn _=>vd P nt k Q .normal
  | .exit id=>match it with
   | .bn i=>if id=i then vd P nt k Q .normal else vd P nt k Q (.exit id)
   |_=>vd P nt k Q (.exit id)
  |e=>vd P nt k Q e
def aw(P:Program)(nt:Nat)(k:List It)(Q:Exit->FR->AH->Prop)(fr:FR)(H:AH):Prop:=vd P nt k Q .normal fr H
def Qp(P:Program)(b:Array ResultVar)(a:Value->AH->Prop):Exit->FR->AH->Prop
 | .normal,fr,H| .ret,fr,H=>match ta P fr b.toList with
  |some h=>a (D0 h) H
  |none=>False
 |_,_,_=>False
end Go.Am
