import Derived.Test.YtnojafnlicbhpaaGreatAmK
import Derived.Orders
open Bool renaming false→aa,true→Z
open Option renaming none→ae,some→J
namespace Go.Am
def fK:=@List.mem_cons
def gB:=@List.mem_singleton
def jE:=@List.mem_map
def jY:=@List.mem_append
def kp:=@List.mem_range
def l9:=@Option.map_some
def mM:=@Nat.mod_lt
def nU:=@List.mem_cons_of_mem
def p9:=@List.mem_cons_self
def qc:=@Bool.not_eq_true'
def sG:=@List.mem_append_left
def tY:=@Bool.or_eq_true
def tZ:=@List.cons_append
def wc:=@Bool.not_true
def yy:=@List.mem_append_right
def Db:=@Iff.rfl
def Dc:=@List.flatMap_cons
def Ud:=@Bool.and_self
def Ue:=@Nat.testBit_or
def Aao:=@List.mem_flatMap
def Aap:=@Bool.false_or
def Aaq:=@Bool.false_and
def Aar:=@List.singleton_append
def Aas:=@Nat.le_of_ble_eq_true
def Ab8:=@Nat.testBit_two_pow
set_option linter.unusedVariables false
set_option linter.unusedSimpArgs false
def fu(H H':AH):Prop:=H.n<=H'.n/\∀id k,H.b id=J k->H'.b id=J k
theorem fu.refl(H:AH):fu H H:=⟨cy _,λ_ _ h=>h⟩
theorem fu.trans{a b c:AH}(h:fu a b)(h':fu b c):fu a c:=⟨gj h.1 h'.1,λid k hk=>h'.2 id k (h.2 id k hk)⟩
section
variable {P:Program}
variable{H:AH}{K K2:FR->AH->Prop}{fr:FR}{nt:Nat}{o:Oper}{pre:List (Option Tmp)}
theorem zE(hk:∀fr H,K fr H->K2 fr H){d:Option Tmp}{x:FV}(h:bB nt K d x fr H):bB nt K2 d x fr H:=by
 unfold bB at h⊢;split at h
 ·split at h
  ·rename_i hd;rw[aB hd];exact hk _ _ h
  ·cases h
 ·exact hk _ _ h
theorem Qw(hk:∀fr H,K fr H->K2 fr H)(h:dw P nt o K fr H):dw P nt o K2 fr H:=by
 unfold dw at h⊢;split at h
 ·split at h
  ·split at h
   ·exact zE hk h
   ·cases h
  ·cases h
 ·cases h
theorem Y0(hk:∀fr H,K fr H->K2 fr H){t:TypeId}{x i:Operand}{d:Option Tmp}:QA P nt t x i d K fr H->QA P nt t x i d K2 fr H:=
 λ⟨u,l,es,cs,k,j,e,g,r,a1,a2,a3,a4,a5,a6,a7⟩=>⟨u,l,es,cs,k,j,e,g,r,a1,a2,a3,a4,a5,a6,zE hk a7⟩
theorem Ck(hk:∀fr H,K fr H->K2 fr H)(h:aM P nt o K fr H):aM P nt o K2 fr H:=by
 unfold aM at h⊢;split at h
 all_goals
  repeat' first
   |exact zE hk h
   |exact hk _ _ h
   |exact Qw hk h
   |exact h.imp (Qw hk) λ⟨h1,l,ns,h2,h3⟩=>⟨h1,l,ns,h2,zE hk h3⟩
   |exact h.imp (zE hk) (Y0 hk)
   |exact h.imp (λx=>x) (Y0 hk)
   |exact h.mono (λ_ _ hh=>zE hk hh)
   |exact h.elim
   |rw[aB (by assumption)]
   |rw[az (by assumption)]
   |split at h
theorem O4(hk:∀fr H,K fr H->K2 fr H)(h:nm P nt pre o K fr H):nm P nt pre o K2 fr H:=by
 unfold nm at h⊢;split at h
 ·exact Ck hk h
 ·split at h
  ·split at h
   ·rename_i e;rw[aB e];exact Ck hk h
   ·rename_i e;rw[az e];exact zE hk h
  ·cases h
theorem zsX(hk:∀fr H,K fr H->K2 fr H)(h:fj P nt o K fr H):fj P nt o K2 fr H:=by
 unfold fj at h⊢;split at h
 case h_3=>
  refine⟨h.1,?_⟩;have h:=h.2;split at h
  ·exact λb=>hk _ _ (h b)
  ·exact hk _ _ h
  ·exact h.elim
 case h_4=>
  split at h
  ·exact⟨h.1,h.2.1,h.2.2.1,hk _ _ h.2.2.2⟩
  ·exact h.elim
 case h_5=>
  repeat' first
   |exact h.imp (λh=>⟨h.1,hk _ _ h.2⟩) λ⟨h1,sv,v,H2,h2,h3,h4⟩=>⟨h1,sv,v,H2,h2,h3,hk _ _ h4⟩
   |exact h.elim
   |split at h
 case h_6=>
  repeat' first
   |(obtain⟨h1,cs,h2,h3⟩:=h;exact⟨h1,cs,h2,hk _ _ h3⟩)
   |exact h.elim
   |split at h
 case h_7=>
  obtain⟨ts,ai,H',h1,h2⟩:=h;exact⟨ts,ai,H',h1,Qw hk h2⟩
 case h_8=>
  obtain⟨s,cells,h1,h2⟩:=h;exact⟨s,cells,h1,hk _ _ h2⟩
 case h_9=>
  refine⟨h.1,?_⟩;have h:=h.2;split at h
  ·obtain⟨ns,h1,h2⟩:=h;exact⟨ns,h1,hk _ _ h2⟩
  ·exact h.elim
 all_goals
  repeat' first
   |exact⟨h.1,h.2.1,hk _ _ h.2.2⟩
   |exact h.elim
   |split at h
theorem zxx(hk:∀fr H,K fr H->K2 fr H)(h:zA P nt pre o K fr H):zA P nt pre o K2 fr H:=by
 unfold zA at h⊢;split at h
 ·exact h.imp (Ck hk) (zsX hk)
 ·split at h
  ·split at h
   ·rename_i e;rw[aB e];exact h.imp (Ck hk) (zsX hk)
   ·rename_i e;rw[az e];exact zE hk h
  ·cases h
theorem zxa :∀{l:List Oper}{K K2:FR->AH->Prop}(_:∀fr H,K fr H->K2 fr H) {fr:FR}{H:AH},mW P nt pre l K fr H->mW P nt pre l K2 fr H:=by
 intro l;induction l with
 |nil=>intro K K2 hk fr H h;exact hk _ _ h
 |cons o l ih=>intro K K2 hk fr H h;exact zxx (λ_ _ h'=>ih hk h') h
end
def dT:Operand->List Nat
 | .tmp t=>[t]
 |_=>[]
def B9(o:Op):List Nat:=o.operands.toList.flatMap dT
def Tz(pre:List (Option Tmp))(o:Oper):List Nat:=
 match o.guard with
 |some (j,_)=>match pre[j]? with
  |some (J d)=>[d]
  |_=>[]
 |none=>[]
def sls(pre:List (Option Tmp))(o:Oper):List Nat:=B9 o.op++Tz pre o
def NY:Op->Bool
 | .call ⟨.value _,_,_⟩| .call ⟨.builtin .copy,_,_⟩=>Z
 |_=>aa
def Sa:Op->Bool
 | .makeSlice .. =>Z
 |_=>aa
def se:Op->Bool
 | .call ⟨.builtin .append,_,_⟩=>Z
 |_=>aa
def r6:Op->Bool
 | .store .. =>Z
 |_=>aa
def C2:Op->Bool
 | .load .. =>Z
 |_=>aa
def CG:Op->Option Nat
 | .load _ (.tmp t)=>J t
 | .store _ (.tmp t) _=>J t
 |_=>ae
structure DE where
 i:Nat
 sl:List Nat
 rg:List Nat
 mr:Option Nat
 ls:Bool
 ext:Bool
 wr:Bool
def DE.ex(e:DE):Bool:=e.ext&& !e.wr
def Wt:FV->Bool
 | .loc _| .lp .. | .skip=>Z
 |_=>aa
def sS(rg:List Nat)(ls:Bool)(t:Nat):FV->Bool
 | .v (.tuple a)=> !a.toList.isEmpty
 | .v _=>Z
 | .skip=>Z
 | .loc _=>rg.contains t
 | .lp s _=>rg.contains s
 | .ls .. =>ls
def DI(fr:FR):Option Nat->Bool
 |some t=>Wt (fr t)
 |none=>Z
def xG(rg:List Nat)(ls:Bool)(fr:FR):List Nat->Bool
 |[]=>Z
 |t::r=>sS rg ls t (fr t)&&xG rg ls fr r
def jQ(e:DE)(fr:FR):Bool:=xG e.rg e.ls fr e.sl&&DI fr e.mr
def SZ(pre:List (Option Tmp))(e:DE)(o:Oper):Bool:=
 (sls pre o).all (e.sl.contains ·)&&(!e.ls||e.ext||se o.op)&&(!(NY o.op||Sa o.op)||e.ext)&&
 (!(C2 o.op||r6 o.op)||e.rg.isEmpty||(e.mr.isSome&&e.mr==CG o.op))&&(e.mr.toList.all (e.sl.contains ·))
def TI(e:DE)(o:Oper):Bool:= !e.ext&& !se o.op&& !r6 o.op
def Kc(xs ys:List Nat):Bool:=xs.all λx=> !ys.contains x
def Fv(x:DE)(p:Oper)(y:DE)(q:Oper):Bool:=
 TI x p&&Kc p.dst.toList (y.sl++y.rg++q.dst.toList)&&Kc q.dst.toList (x.sl++x.rg)&&
 (!(C2 p.op&&x.rg.isEmpty)||(!se q.op&&(!r6 q.op|| !y.rg.isEmpty||y.ext)))&&
 (!r6 q.op||Kc y.rg (x.sl++x.rg))&&(!(C2 p.op&&x.rg.isEmpty)|| !y.wr)
def uN(P:Program)(nt:Nat)(pre:List (Option Tmp))(e:DE)(o:Oper)(K:FR->AH->Prop)(fr:FR)(H:AH):Prop:=
 jQ e fr=Z/\nm P nt pre o (λai H'=>(e.ex=Z->fu H H')/\K ai H') fr H
def ir(P:Program)(nt:Nat)(pre:List (Option Tmp)):List (DE×Oper)->(FR->AH->Prop)->FR->AH->Prop
 |[],K,fr,H=>K fr H
 |(e,o)::r,K,fr,H=>uN P nt pre e o (ir P nt pre r K) fr H
inductive cj where
 |no
 |put (d:Nat) (x:FV)
 |loc (d:Nat) (cells:List Value)
def cj.bA:cj->FR->FR
 | .no,fr=>fr
 | .put d x,fr=>fr.put d x
 | .loc d cs,fr=>fr.eT d cs
def cj.dst:cj->List Nat
 | .no=>[]
 | .put d _| .loc d _=>[d]
def cj.of:Option Tmp->FV->cj
 |some d,x=>.put d x
 |none,_=>.no
structure pi (e:DE) (f g:FR):Prop where
 s:∀t,t∈e.sl->f t=g t
 r:∀s,s∈e.rg->∀cs,f s=.loc cs↔g s=.loc cs
section
variable {P:Program}{nt:Nat}{pre:List (Option Tmp)}{e:DE}{f g fr:FR}{H:AH}{U:cj}
variable{ls:Bool}{rg:List Nat}{x:Operand}
theorem Dr :∀{l:List Nat},xG rg ls fr l=Z->∀t,t∈l->sS rg ls t (fr t)=Z:=by
 intro l;induction l with
 |nil=>intro _ t h;cases h
 |cons a l ih=>
  intro h t ht;simp only[xG,bI]at h;rcases fK.1 ht with rfl|ht
  ·exact h.1
  ·exact ih h.2 t ht
theorem mZ(h:pi e f g)(hx:∀t,t∈dT x->t∈e.sl):be f x=be g x:=by
 cases x with
 |tmp t=>simp only[be,h.s t (hx t (by simp[dT]))]
 |_=>rfl
theorem LZ{t s o:Nat}(h:sS rg ls t (.lp s o)=Z):s∈rg:=by simpa[sS]using h
theorem Va{t:Nat}{cs:List Value}(h:sS rg ls t (.loc cs)=Z):t∈rg:=by simpa[sS]using h
theorem qF(h:pi e f g)(hg:jQ e g=Z)(hx:∀t,t∈dT x->t∈e.sl):bM f x=bM g x:=by
 cases x with
 |tmp t=>
  have ht:=hx t (by simp[dT]);simp only[bM,h.s t ht];cases zk:g t with
  |lp s o=>
   have hs:s∈e.rg:=by
    simp only[jQ,bI]at hg;have:=Dr hg.1 t ht;rw[zk]at this;exact LZ this
   simp only;cases Bz:g s with
   |loc cs=>rw[(h.r s hs cs).2 Bz]
   |_=>
    cases jC:f s with
    |loc cs=>rw[(h.r s hs cs).1 jC]at Bz;cases Bz
    |_=>rfl
  |_=>rfl
 |const c=>simp only[bM];rw[mZ h hx]
 |func c=>simp only[bM];rw[mZ h hx]
 |global c=>simp only[bM];rw[mZ h hx]
theorem zw(hg:jQ e g=Z)(hx:∀t,t∈dT x->t∈e.sl){s o:Nat}(h:bM g x=J (.lp s o)):s∈e.rg/\∃cs,g s=.loc cs:=by
 simp only[jQ,bI]at hg;cases x with
 |tmp t=>
  have hk:=Dr hg.1 t (hx t (by simp[dT]));simp only[bM]at h;cases zk:g t with
  |lp s' o'=>
   rw[zk]at h hk;simp only at h;cases Bz:g s' with
   |loc cs=>rw[Bz]at h;cases h;exact⟨LZ hk,cs,Bz⟩
   |_=>rw[Bz]at h;cases h
  |loc cs=>rw[zk]at h hk;cases h;exact⟨Va hk,cs,zk⟩
  |v x=>rw[zk]at h;cases h
  |skip=>rw[zk]at h;cases h
  |ls=>rw[zk]at h;cases h
 |const c=>simp only[bM,be]at h;split at h<;>cases h
 |func c=>simp only[bM,be]at h;cases h
 |global c=>simp only[bM,be]at h;cases h
end
section
variable {P:Program}{nt:Nat}{pre:List (Option Tmp)}{e:DE}{f g fr:FR}{H:AH}{U:cj}
variable{o:Oper}{x:FV}
theorem Ha{dd:Nat}(hd:dd∉U.dst)(hx:∀s o,x=.lp s o->s∉U.dst):(U.bA fr).put dd x=U.bA (fr.put dd x):=by
 cases U with
 |no=>rfl
 |put d y=>
  funext t;simp only[cj.dst,gB]at hd;simp only[cj.bA,FR.put];by_cases h1:t=dd
  ·subst h1;simp[hd]
  ·simp[h1]
 |loc d cs=>
  funext t;simp only[cj.dst,gB]at hd hx;simp only[cj.bA,FR.put,FR.eT];by_cases h1:t=dd
  ·subst h1;simp only[eP,az hd];cases x with
   |lp s o=>simp only[kH];rw[az (hx s o rfl)]
   |_=>rfl
  ·simp[h1]
theorem zvZ(a b:Nat)(v:FV):kH a (kH b v)=kH b (kH a v):=by
 cases v with
 |lp s o=>
  have k:∀c,kH c (.lp s o)=if s=c then jv else .lp s o:=λ_=>rfl
  by_cases h1:s=a<;>by_cases h2:s=b
  ·rw[k b,aB h2,k a,aB h1];rfl
  ·rw[k b,az h2,k a,aB h1];rfl
  ·rw[k b,aB h2,k a,az h1,k b,aB h2];rfl
  ·rw[k b,az h2,k a,az h1,k b,az h2]
 |_=>rfl
theorem zqg{dd:Nat}{cs:List Value}(hd:dd∉U.dst)(hU:∀d' s o,U=.put d' (.lp s o)->s≠dd):(U.bA fr).eT dd cs=U.bA (fr.eT dd cs):=by
 cases U with
 |no=>rfl
 |put d y=>
  funext t;simp only[cj.dst,gB]at hd;simp only[cj.bA,FR.put,FR.eT];by_cases h1:t=dd
  ·subst h1;simp[hd]
  ·by_cases h2:t=d
   ·subst h2;simp only[h1,eP,l7];cases y with
    |lp s o=>simp only[kH];rw[az (hU _ s o rfl)]
    |_=>rfl
   ·simp[h1,h2]
 |loc d c2=>
  funext t;simp only[cj.dst,gB]at hd;simp only[cj.bA,FR.eT];by_cases h1:t=dd
  ·subst h1;simp[hd,kH]
  ·by_cases h2:t=d
   ·subst h2;simp[h1,kH]
   ·simp only[h1,h2,l7];exact zvZ ..
theorem PI{s:Nat}(h:s∉U.dst)(cs:List Value):U.bA fr s=.loc cs↔fr s=.loc cs:=by
 cases U with
 |no=>exact Db
 |put d y=>
  simp only[cj.dst,gB]at h;simp[cj.bA,FR.put,h]
 |loc d c2=>
  simp only[cj.dst,gB]at h;simp only[cj.bA,FR.eT,az h];cases fr s with
  |lp s' o'=>simp only[kH];split<;>simp[jv]
  |_=>simp[kH]
theorem zAX(hs:∀t,t∈e.sl->t∉U.dst)(hr:∀s,s∈e.rg->s∉U.dst)(hc:jQ e (U.bA fr)=Z):pi e (U.bA fr) fr:=by
 refine⟨λt ht=>?_,λs hs cs=>PI (hr s hs) cs⟩;simp only[jQ,bI]at hc;have hk:=Dr hc.1 t ht;have hd:=hs t ht;cases U with
 |no=>rfl
 |put d y=>
  simp only[cj.dst,gB]at hd;simp[cj.bA,FR.put,hd]
 |loc d c2=>
  simp only[cj.dst,gB]at hd;simp only[cj.bA,FR.eT,az hd]at hk⊢;cases hf:fr t with
  |lp s o=>
   rw[hf]at hk;simp only[kH]at hk⊢;split
   ·rename_i h;rw[aB h]at hk;simp[jv,sS]at hk
   ·rfl
  |_=>rfl
theorem YJ(h:pi e f g)(hr:∀t,e.mr=J t->t∈e.sl):jQ e f=jQ e g:=by
 have h1:∀l:List Nat,(∀t,t∈l->t∈e.sl)->xG e.rg e.ls f l=xG e.rg e.ls g l:=by
  intro l;induction l with
  |nil=>intro _;rfl
  |cons a l ih=>intro hl;simp only[xG];rw[h.s a (hl a (p9 ..)),ih λt ht=>hl t (nU _ ht)]
 simp only[jQ];rw[h1 _ λt ht=>ht];congr 1;cases hm:e.mr with
 |none=>rfl
 |some t=>simp only[DI];rw[h.s t (hr t hm)]
structure mp (e:DE) (o:Oper) (fr:FR) (H:AH) (f:FR) (h:AH):Prop where
 s:∀t,t∉o.dst.toList->(r6 o.op=Z->t∉e.rg)->(∀l es cs,fr t≠.ls l es cs)->(∀d k,d∈o.dst.toList->fr t≠.lp d k)->f t=fr t
 r:∀s,s∉o.dst.toList->(r6 o.op=Z->s∉e.rg)->∀cs,f s=.loc cs↔fr s=.loc cs
 h:e.ext=aa->se o.op=aa->(r6 o.op=Z->e.rg≠[])->h=H
theorem n9{K R:FR->AH->Prop}{d:Option Tmp}(h:bB nt K d x (U.bA fr) H)(hd:∀t,t∈d.toList->t∉U.dst)(hx:∀s o,x=.lp s o->s∉U.dst)
(hP:R ((cj.of d x).bA fr) H):bB nt (λf h=>K (U.bA f) h/\R f h) d x fr H:=by
 cases d with
 |none=>exact⟨h,hP⟩
 |some d=>
  simp only[bB]at h⊢;split at h
  ·rename_i hlt;rw[aB hlt];exact⟨by rw[<-Ha (hd d (by simp)) hx];exact h,hP⟩
  ·cases h
theorem uc :mp e o fr H ((cj.of o.dst x).bA fr) H:=by
 cases hd:o.dst with
 |none=>exact⟨λ_ _ _ _ _=>rfl,λ_ _ _ _=>Db,λ_ _ _=>rfl⟩
 |some d=>
  refine⟨λt h1 _ _ _=>?_,λs h1 _ cs=>?_,λ_ _ _=>rfl⟩
  ·rw[hd]at h1;simp at h1;simp[cj.of,cj.bA,FR.put,h1]
  ·rw[hd]at h1;simp at h1;simp[cj.of,cj.bA,FR.put,h1]
theorem VP{d:Nat}{cs:List Value}(hd:o.dst=J d):mp e o fr H (fr.eT d cs) H:=by
 refine⟨λt h1 _ _ h4=>?_,λs h1 _ c2=>?_,λ_ _ _=>rfl⟩
 ·rw[hd]at h1;simp at h1;simp only[FR.eT,az h1];cases hf:fr t with
  |lp s k=>
   simp only[kH];rw[az];intro e;subst e;exact h4 _ k (by simp[hd]) hf
  |_=>rfl
 ·rw[hd]at h1;simp at h1;simp only[FR.eT,az h1];cases hf:fr s with
  |lp s k=>simp only[kH];split<;>simp[jv]
  |_=>simp[kH]
theorem WZ{x:Operand}(hx:∀t,t∈dT x->t∉U.dst/\U.bA fr t=fr t):bh (U.bA fr) H x=(bh fr H x).map λr=>(r.1,U.bA r.2.1,r.2.2):=by
 cases x with
 |tmp t=>
  obtain⟨h1,h2⟩:=hx t (by simp[dT]);simp only[bh,h2];cases hf:fr t with
  |v y=>rfl
  |ls l es cs=>simp only[l9];rw[Ha h1 (by intro s o hh;cases hh)]
  |_=>rfl
 |const c=>simp only[bh,be];split<;>rfl
 |func c=>rfl
 |global c=>rfl
theorem qP{x:Operand}{v:Value}{f:FR}{h:AH}(hm:bh fr H x=J (v,f,h)):(∀t,(∀l es cs,fr t≠.ls l es cs)->f t=fr t)/\(∀t,f t=fr t\/((∃l es cs,fr t=.ls l es cs)/\∃y,f t=.v y))/\
 ((∀t,t∈dT x->∀l es cs,fr t≠.ls l es cs)->f=fr/\h=H/\be fr x=J v):=by
 have key:∀y:Operand,bh fr H y=(be fr y).map (λv=>(v,fr,H))->bh fr H y=J (v,f,h)->f=fr/\h=H/\be fr y=J v:=by
  intro y e hm;rw[e]at hm;cases hr:be fr y with
  |none=>rw[hr]at hm;cases hm
  |some w=>rw[hr]at hm;cases hm;exact⟨rfl,rfl,rfl⟩
 cases x with
 |tmp t=>
  simp only[bh]at hm;cases hf:fr t with
  |v y=>
   rw[hf]at hm;cases hm;exact⟨λ_ _=>rfl,λ_=>.inl rfl,λ_=>⟨rfl,rfl,by simp[be,hf]⟩⟩
  |ls l es cs=>
   rw[hf]at hm;cases hm;refine⟨λu hu=>?_,λu=>?_,λhn=>absurd hf (hn t (by simp[dT]) l es cs)⟩
   ·have:u≠t:=by rintro rfl;exact hu l es cs hf
    simp[FR.put,this]
   ·by_cases Mm:u=t
    ·subst Mm;exact .inr ⟨⟨l,es,cs,hf⟩,_,jM ..⟩
    ·exact .inl (by simp[FR.put,Mm])
  |skip=>rw[hf]at hm;cases hm
  |loc cs=>rw[hf]at hm;cases hm
  |lp s k=>rw[hf]at hm;cases hm
 |const c=>
  obtain⟨rfl,rfl,h3⟩:=key (.const c) rfl hm;exact⟨λ_ _=>rfl,λ_=>.inl rfl,λ_=>⟨rfl,rfl,h3⟩⟩
 |func c=>
  obtain⟨rfl,rfl,h3⟩:=key (.func c) rfl hm;exact⟨λ_ _=>rfl,λ_=>.inl rfl,λ_=>⟨rfl,rfl,h3⟩⟩
 |global c=>
  obtain⟨rfl,rfl,h3⟩:=key (.global c) rfl hm;exact⟨λ_ _=>rfl,λ_=>.inl rfl,λ_=>⟨rfl,rfl,h3⟩⟩
theorem zy4:∀{xs:List Operand}{fr:FR}{H:AH}(_:∀t,t∈xs.flatMap dT->t∉U.dst/\U.bA fr t=fr t),ck (U.bA fr) H xs=(ck fr H xs).map λr=>(r.1,U.bA r.2.1,r.2.2):=by
 intro xs;induction xs with
 |nil=>intro fr H _;rfl
 |cons x xs ih=>
  intro fr H h;have hx:∀t,t∈dT x->t∉U.dst/\U.bA fr t=fr t:=λt ht=>h t (by simp only[Dc,jY];exact .inl ht)
  simp only[ck,WZ hx];cases hm:bh fr H x with
  |none=>rfl
  |some r=>
   obtain⟨v,f,h'⟩:=r;simp only[l9];have hf:=qP hm
   have ib:∀t,t∈xs.flatMap dT->t∉U.dst/\U.bA f t=f t:=by
    intro t ht;have hu:=h t (by simp only[Dc,jY];exact .inr ht);refine⟨hu.1,?_⟩;rcases hf.2.1 t with e|⟨_,y,e⟩
    ·
     have h1:=hu.2;cases U with
     |no=>rfl
     |put d z=>simp only[cj.dst,gB]at hu;simp[cj.bA,FR.put,hu.1]
     |loc d z=>
      simp only[cj.dst,gB]at hu;simp only[cj.bA,FR.eT,az hu.1]at h1⊢;rw[e];exact h1
    ·cases U with
     |no=>rfl
     |put d z=>simp only[cj.dst,gB]at hu;simp[cj.bA,FR.put,hu.1]
     |loc d z=>
      simp only[cj.dst,gB]at hu;simp only[cj.bA,FR.eT,az hu.1];rw[e];rfl
   rw[ih ib];cases ck f h' xs<;>rfl
theorem zi:∀{xs:List Operand}{vs:List Value}{fr f:FR}{H h:AH}(_:ck fr H xs=J (vs,f,h)),(∀t,(∀l es cs,fr t≠.ls l es cs)->f t=fr t)/\(∀t,f t=fr t\/((∃l es cs,fr t=.ls l es cs)/\∃y,f t=.v y))/\
 ((∀t,t∈xs.flatMap dT->∀l es cs,fr t≠.ls l es cs)->f=fr/\h=H):=by
 intro xs;induction xs with
 |nil=>intro vs fr f H h hm;cases hm;exact⟨λ_ _=>rfl,λ_=>.inl rfl,λ_=>⟨rfl,rfl⟩⟩
 |cons x xs ih=>
  intro vs fr f H h hm;simp only[ck]at hm;cases h1:bh fr H x with
  |none=>rw[h1]at hm;cases hm
  |some r=>
   obtain⟨v,f1,jN⟩:=r;rw[h1]at hm;simp only at hm;cases h2:ck f1 jN xs with
   |none=>rw[h2]at hm;cases hm
   |some r=>
    obtain⟨HA,f2,MO⟩:=r;rw[h2]at hm;cases hm;have m1:=qP h1;have m2:=ih h2;refine⟨λt ht=>?_,λt=>?_,λhn=>?_⟩
    ·have e1:=m1.1 t ht;rw[m2.1 t (by rw[e1];exact ht),e1]
    ·rcases m2.2.1 t with e2|⟨⟨l,es,cs,e2⟩,y,e3⟩
     ·rcases m1.2.1 t with e1|⟨a,y,e1⟩
      ·exact .inl (e2.trans e1)
      ·exact .inr ⟨a,y,e2.trans e1⟩
     ·rcases m1.2.1 t with e1|⟨a,_⟩
      ·exact .inr ⟨⟨l,es,cs,e1▸e2⟩,y,e3⟩
      ·exact .inr ⟨a,y,e3⟩
    ·obtain⟨rfl,rfl,_⟩:=m1.2.2 λt ht=>hn t (by simp only[Dc,jY];exact .inl ht)
     exact m2.2.2 λt ht=>hn t (by simp only[Dc,jY];exact .inr ht)
theorem zW{f:FR}{h h':AH}(h1:∀t,(∀l es cs,fr t≠.ls l es cs)->f t=fr t)(h2:∀t,f t=fr t\/((∃l es cs,fr t=.ls l es cs)/\∃y,f t=.v y))
(h3:e.ext=aa->se o.op=aa->(r6 o.op=Z->e.rg≠[])->h'=H):mp e o fr H ((cj.of o.dst x).bA f) h':=by
 have hp:=uc (e:=e) (fr:=f) (H:=h) (o:=o) (x:=x);refine⟨λt a b c d=>?_,λs a b cs=>?_,h3⟩
 ·rw[hp.s t a b (by rw[h1 t c];exact c) (by rw[h1 t c];exact d)];exact h1 t c
 ·rw[hp.r s a b cs];rcases h2 s with e|⟨⟨l,es,cc,e⟩,y,e'⟩
  ·rw[e]
  ·rw[e,e'];simp
end
set_option linter.unusedSectionVars false
structure WF (pre:List (Option Tmp)) (e:DE) (o:Oper):Prop where
 sl:∀t,t∈sls pre o->t∈e.sl
 ls:e.ls=Z->e.ext=Z\/se o.op=Z
 call:NY o.op=Z\/Sa o.op=Z->e.ext=Z
 U2:∀t,e.mr=J t->t∈e.sl
 mr:C2 o.op=Z\/r6 o.op=Z->e.rg=[]\/∃t,e.mr=J t/\CG o.op=J t
structure RX (U:cj) (e:DE) (o:Oper):Prop where
 sl:∀t,t∈e.sl->t∉U.dst
 rg:∀s,s∈e.rg->s∉U.dst
 ds:∀t,t∈o.dst.toList->t∉U.dst
 lp:∀d s k,U=.put d (.lp s k)->s∉o.dst.toList
theorem zHo{pre:List (Option Tmp)}{e:DE}{o:Oper}(h:SZ pre e o=Z):WF pre e o:=by
 simp only[SZ,bI]at h;obtain⟨⟨⟨⟨h1,h2⟩,h3⟩,h4⟩,h5⟩:=h;refine⟨λt ht=>?_,λhl=>?_,λhc=>?_,λt ht=>by simpa[ht]using h5,λhm=>?_⟩
 ·rw[bm]at h1;simpa using h1 t ht
 ·simpa[hl]using h2
 ·rcases hc with hc|hc<;>simpa[hc]using h3
 ·have:(e.rg.isEmpty||(e.mr.isSome&&e.mr==CG o.op))=Z:=by
   rcases hm with hm|hm<;>simpa[hm]using h4
  simp only[tY,bI]at this;rcases this with h|⟨h5,h6⟩
  ·left;simpa using h
  ·right;obtain⟨t,ht⟩:=Gq.1 h5;exact⟨t,ht,by rw[ht]at h6;exact(beq_iff_eq.1 h6).symm⟩
section
variable {P:Program}{nt:Nat}{pre:List (Option Tmp)}{e:DE}{o:Oper}{f g fr:FR}{H:AH}{U:cj}{K:FR->AH->Prop}
variable{t:TypeId}{x:Operand}{xs:List Operand}
theorem WF.of(hW:WF pre e o)(hx:x∈o.op.operands.toList):∀t,t∈dT x->t∈e.sl:=
 λt ht=>hW.sl t (sG _ (Aao.2 ⟨x,hx,ht⟩))
theorem WF.eu(hW:WF pre e o)(hx:∀x,x∈xs->x∈o.op.operands.toList):∀t,t∈xs.flatMap dT->t∈e.sl:=λt ht=>by
 obtain⟨x,h1,h2⟩:=Aao.1 ht;exact hW.of (hx x h1) t h2
theorem znR{op:Op}(h:gp op=J xs):∀x,x∈xs->x∈op.operands.toList:=by
 cases op<;>simp only[gp,aT,reduceCtorEq]at h<;>try (subst h;simp[Op.operands])
 ·rename_i c;obtain⟨callee,args,ts⟩:=c;cases callee with
  |builtin b=>cases b<;>simp only[aT,reduceCtorEq]at h<;>(subst h;intro x hx;simp[Op.operands,Call.operands];simpa using hx)
  |_=>simp at h
theorem Ad(hW:WF pre e o)(hc:jQ e fr=Z)(h1:e.ext=aa)(h2:se o.op=aa):∀t,t∈e.sl->∀l es cs,fr t≠.ls l es cs:=by
 intro t ht l es cs hf;simp only[jQ,bI]at hc;have hk:=Dr hc.1 t ht;rw[hf]at hk;rcases hW.ls hk with h|h
 ·rw[h1]at h;cases h
 ·rw[h2]at h;cases h
variable (hA:RX U e o) (hW:WF pre e o) (hS:pi e (U.bA fr) fr) (hc:jQ e fr=Z)
include hA hW hS hc
theorem zzF{a:Operand}(ho:o.op=.load t a)(h:aM P nt o K (U.bA fr) H):aM P nt o (λf h=>K (U.bA f) h/\mp e o fr H f h) fr H:=by
 have hx:∀t,t∈dT a->t∈e.sl:=hW.of (by simp[ho,Op.operands])
 have e1:mE (U.bA fr) H a=mE fr H a:=by
  unfold mE;rw[qF hS hc hx];cases hr:bM fr a with
  |none=>rfl
  |some v=>
   cases v with
   |lp s k=>
    obtain⟨hs,cs,dQ⟩:=zw hc hx hr;simp only;rw[dQ,(hS.r s hs cs).2 dQ]
   |v x=>
    cases x<;>try rfl
    rename_i p;cases p with
    |none=>rfl
    |some p=>obtain⟨i,k,sp⟩:=p;cases sp<;>rfl
   |_=>rfl
 simp only[aM,ho,e1]at h⊢;split at h
 ·rename_i v hv;exact n9 h hA.ds (λs k hh=>by cases hh) uc
 ·cases h
omit hA hS in
theorem V0{s k:Nat}(h:iu P fr o.op=J (.lp s k)):s∈e.rg:=by
 cases ho:o.op<;>rw[ho]at h<;>simp only[iu,reduceCtorEq]at h
 ·rename_i x;have hx:∀t,t∈dT x->t∈e.sl:=hW.of (by simp[ho,Op.operands]);split at h
  ·cases h
  ·rename_i hr;cases h;exact(zw hc hx hr).1
  ·cases h
 ·rename_i t x f;have hx:∀t,t∈dT x->t∈e.sl:=hW.of (by simp[ho,Op.operands]);split at h
  ·rename_i hr;cases h;exact(zw hc hx hr).1
  ·cases h
  ·cases h
 ·rename_i t x i;have hx:∀t,t∈dT x->t∈e.sl:=hW.of (by simp[ho,Op.operands])
  repeat' split at h
  all_goals first
   |(cases h;done)
   |(cases h;exact(zw hc hx (by assumption)).1)
omit hA in
theorem zyQ:iu P (U.bA fr) o.op=iu P fr o.op:=by
 cases ho:o.op<;>simp only[iu]
 ·rename_i x;rw[qF hS hc (hW.of (by simp[ho,Op.operands]))]
 ·rename_i t x f;rw[qF hS hc (hW.of (by simp[ho,Op.operands]))]
 ·rename_i t x i;rw[qF hS hc (hW.of (by simp[ho,Op.operands])),mZ hS (hW.of (by simp[ho,Op.operands]))]
theorem TB(h:match iu P (U.bA fr) o.op with|some x=>bB nt K o.dst x (U.bA fr) H|none=>False):
 match iu P fr o.op with|some x=>bB nt (λf h=>K (U.bA f) h/\mp e o fr H f h) o.dst x fr H|none=>False:=by
 rw[zyQ hW hS hc]at h;cases hv:iu P fr o.op with
 |none=>rw[hv]at h;cases h
 |some y=>
  rw[hv]at h;exact n9 h hA.ds (λs k hh=>hA.rg s (V0 hW hc (by rw[hv,hh]))) uc
theorem zxm(ho:o.op=.alloc t)(h:aM P nt o K (U.bA fr) H):aM P nt o (λf h=>K (U.bA f) h/\mp e o fr H f h) fr H:=by
 simp only[aM,ho]at h⊢;split at h
 ·rename_i z d hz hd;split at h
  ·rename_i kX;rw[aB kX];refine⟨?_,VP hd⟩;rw[<-zqg (hA.ds d (by simp[hd])) (λd' s k hu hs=>hA.lp d' s k hu (by simp[hd,hs]))];exact h
  ·cases h
 ·cases h
theorem zA1(ho:o.op=.box t x)(h:aM P nt o K (U.bA fr) H):aM P nt o (λf h=>K (U.bA f) h/\mp e o fr H f h) fr H:=by
 simp only[aM,ho,mZ hS (hW.of (x:=x) (by simp[ho,Op.operands]))]at h⊢;split at h
 ·rename_i z v d hz hv hd;split at h
  ·rename_i kX;rw[aB kX];refine⟨?_,VP hd⟩;rw[<-zqg (hA.ds d (by simp[hd])) (λd' s k hu hs=>hA.lp d' s k hu (by simp[hd,hs]))];exact h
  ·cases h
 ·cases h
theorem Sd(hx:∀x,x∈xs->x∈o.op.operands.toList):ck (U.bA fr) H xs=(ck fr H xs).map λr=>(r.1,U.bA r.2.1,r.2.2):=
 zy4 λt ht=>have h:=hW.eu hx t ht;⟨hA.sl t h,hS.s t h⟩
theorem XO(hx:x∈o.op.operands.toList):bh (U.bA fr) H x=(bh fr H x).map λr=>(r.1,U.bA r.2.1,r.2.2):=
 WZ λt ht=>have h:=hW.of hx t ht;⟨hA.sl t h,hS.s t h⟩
omit hA hS in
theorem LP{vs:List Value}{f:FR}{h:AH}(hx:∀x,x∈xs->x∈o.op.operands.toList)(hm:ck fr H xs=J (vs,f,h)):e.ext=aa->se o.op=aa->f=fr/\h=H:=
 λh1 h2=>(zi hm).2.2 λt ht=>Ad hW hc h1 h2 t (hW.eu hx t ht)
omit hA hS in
theorem XQ{v:Value}{f:FR}{h:AH}(hx:x∈o.op.operands.toList)(hm:bh fr H x=J (v,f,h)):e.ext=aa->se o.op=aa->f=fr/\h=H:=
 λh1 h2=>let r:=(qP hm).2.2 λt ht=>Ad hW hc h1 h2 t (hW.of hx t ht);⟨r.1,r.2.1⟩
theorem JM(h:dw P nt o K (U.bA fr) H):dw P nt o (λf h=>K (U.bA f) h/\mp e o fr H f h) fr H:=by
 unfold dw at h⊢;cases hp:gp o.op with
 |none=>rw[hp]at h;cases h
 |some xs=>
  have hm:=znR hp;rw[hp]at h;simp only[Sd hA hW hS hc hm]at h⊢;cases hx:ck fr H xs with
  |none=>rw[hx]at h;cases h
  |some r=>
   obtain⟨vs,f,h'⟩:=r;rw[hx]at h;simp only[l9]at h⊢;cases hv:eG P o.op vs with
   |none=>rw[hv]at h;cases h
   |some v=>
    rw[hv]at h;exact n9 h hA.ds (λs k hh=>by cases hh) (zW (h:=h') (zi hx).1 (zi hx).2.1 λh1 h2 _=>(LP hW hc hm hx h1 h2).2)
end
section
variable {P:Program}{nt:Nat}{pre:List (Option Tmp)}{e:DE}{o:Oper}{f g fr:FR}{H:AH}{U:cj}{K:FR->AH->Prop}
variable (hA:RX U e o) (hW:WF pre e o) (hS:pi e (U.bA fr) fr) (hc:jQ e fr=Z)
include hA hW hS hc
variable{args:Array Operand}{t:TypeId}{ts:Array TypeId}
theorem zq5{len:Nat}{ps:Array (Nat×Operand)}(ho:o.op=.buildSlice t len ps)(h:aM P nt o K (U.bA fr) H):aM P nt o (λf h=>K (U.bA f) h/\mp e o fr H f h) fr H:=by
 have hm:∀x,x∈ps.toList.map (·.2)->x∈o.op.operands.toList:=by intro x hx;simpa[ho,Op.operands]using hx
 simp only[aM,ho,Sd hA hW hS hc hm]at h⊢;cases he:cR P t with
 |none=>rw[he]at h;cases h
 |some el=>
  cases hd:o.dst with
  |none=>rw[he,hd]at h;cases h
  |some d=>
   rw[he,hd]at h;cases hx:ck fr H (ps.toList.map (·.2))with
   |none=>rw[hx]at h;cases h
   |some r=>
    obtain⟨vs,f,h'⟩:=r;rw[hx]at h;simp only[l9]at h⊢;cases hz:cA P el with
    |none=>rw[hz]at h;cases h
    |some z=>
     obtain⟨gg,es,b,z⟩:=z;rw[hz]at h;simp only at h⊢;split at h
     ·rename_i kX;rw[aB kX];cases hf:jx (λi=>J (i*es,es)) ((ps.toList.map (·.1)).zip vs) ((List.replicate len z).flatten)with
      |none=>rw[hf]at h;cases h
      |some cs=>
       rw[hf]at h;simp only at h⊢;refine⟨?_,?_⟩
       ·rw[<-Ha (hA.ds d (by simp[hd])) (by intro s k hh;cases hh)];exact h
       ·have:=zW (e:=e) (o:=o) (h:=h') (x:=.ls len es cs) (zi hx).1 (zi hx).2.1 λh1 h2 _=>(LP hW hc hm hx h1 h2).2
        rw[hd]at this;exact this
     ·cases h
theorem zy1{c a b:Operand}(ho:o.op=.pick c a b)(h:aM P nt o K (U.bA fr) H):aM P nt o (λf h=>K (U.bA f) h/\mp e o fr H f h) fr H:=by
 simp only[aM,ho,mZ hS (hW.of (x:=c) (by simp[ho,Op.operands])),mZ hS (hW.of (x:=a) (by simp[ho,Op.operands])),mZ hS (hW.of (x:=b) (by simp[ho,Op.operands]))]at h⊢;split at h
 ·split at h
  ·exact n9 h hA.ds (λs k hh=>by cases hh) uc
  ·cases h
 ·split at h
  ·exact n9 h hA.ds (λs k hh=>by cases hh) uc
  ·cases h
 ·cases h
theorem Zg{x:Operand}(ho:o.op=.move x\/o.op=.assign x)(h:aM P nt o K (U.bA fr) H):aM P nt o (λf h=>K (U.bA f) h/\mp e o fr H f h) fr H:=by
 have hx:∀t,t∈dT x->t∈e.sl:=hW.of (by rcases ho with ho|ho<;>simp[ho,Op.operands])
 have he:∀K fr,aM P nt o K fr H=match bM fr x with
  |some (.lp s off)=>bB nt K o.dst (.lp s off) fr H
  |_=>dw P nt o K fr H:=by intro K fr;rcases ho with ho|ho<;>(simp only[aM,ho];rfl)
 rw[he]at h⊢;simp only[qF hS hc hx]at h⊢;split at h
 ·rename_i s k hr;exact n9 h hA.ds (λs' k' hh=>by cases hh;exact hA.rg s (zw hc hx hr).1) uc
 ·exact JM hA hW hS hc h
theorem zrF{l c:Operand}(ho:o.op=.makeSlice t l c)(h:aM P nt o K (U.bA fr) H):aM P nt o (λf h=>K (U.bA f) h/\mp e o fr H f h) fr H:=by
 simp only[aM,ho,mZ hS (hW.of (x:=l) (by simp[ho,Op.operands])),mZ hS (hW.of (x:=c) (by simp[ho,Op.operands]))]at h⊢;split at h
 ·split at h
  ·split at h
   ·rename_i kX;rw[aB kX];have he:=hW.call (.inr (by simp[ho,Sa]));refine n9 h hA.ds (λs k hh=>by cases hh) ?_;have:=uc (e:=e) (o:=o) (fr:=fr) (H:=H) (x:=.v (.slice (J ⟨H.n,0,J ‹Nat›⟩) 0 0));refine zW (h:=H) (λ_ _=>rfl) (λ_=>.inl rfl) ?_;intro h1;rw[he]at h1;cases h1
   ·cases h
  ·cases h
 ·cases h
theorem zy0{fn:Operand}(ho:o.op=.call ⟨.value fn,args,ts⟩)(h:aM P nt o K (U.bA fr) H):aM P nt o (λf h=>K (U.bA f) h/\mp e o fr H f h) fr H:=by
 have hm:∀x,x∈args.toList->x∈o.op.operands.toList:=by intro x hx;simp[ho,Op.operands,Call.operands];exact .inr (by simpa using hx)
 simp only[aM,ho,Sd hA hW hS hc hm]at h⊢;cases hx:ck fr H args.toList with
 |none=>rw[hx]at h;cases h
 |some r=>
  obtain⟨vs,f,h'⟩:=r;rw[hx]at h;simp only[l9]at h⊢
  have Ii:∀t,t∈dT fn->U.bA f t=f t:=by
   intro t ht;have gN:=hW.of (x:=fn) (by simp[ho,Op.operands,Call.operands]) t ht;have h1:=hS.s t gN;have h2:=hA.sl t gN;rcases(zi hx).2.1 t with e1|⟨_,y,e1⟩
   ·cases U with
    |no=>rfl
    |put d z=>simp only[cj.dst,gB]at h2;simp[cj.bA,FR.put,h2]
    |loc d z=>
     simp only[cj.dst,gB]at h2;simp only[cj.bA,FR.eT,az h2]at h1⊢;rw[e1];exact h1
   ·cases U with
    |no=>rfl
    |put d z=>simp only[cj.dst,gB]at h2;simp[cj.bA,FR.put,h2]
    |loc d z=>
     simp only[cj.dst,gB]at h2;simp only[cj.bA,FR.eT,az h2];rw[e1];rfl
  have hr:be (U.bA f) fn=be f fn:=by
   cases fn with
   |tmp t=>simp only[be,Ii t (by simp[dT])]
   |_=>rfl
  rw[hr]at h;split at h
  ·rename_i g' first kc hg
   exact h.mono λv o4 hk=>n9 hk hA.ds (λs k hh=>by cases hh) (zW (h:=h') (zi hx).1 (zi hx).2.1 λh1=>by rw[hW.call (.inl (by simp[ho,NY]))]at h1;cases h1)
  ·cases h
omit hA hW hS hc in
theorem ztn{t:Nat}{f:FR}(h2:t∉U.dst)(h1:U.bA fr t=fr t)(e1:f t=fr t\/((∃l es cs,fr t=.ls l es cs)/\∃y,f t=.v y)):U.bA f t=f t:=by
 rcases e1 with e1|⟨_,y,e1⟩
 ·cases U with
  |no=>rfl
  |put d z=>simp only[cj.dst,gB]at h2;simp[cj.bA,FR.put,h2]
  |loc d z=>
   simp only[cj.dst,gB]at h2;simp only[cj.bA,FR.eT,az h2]at h1⊢;rw[e1];exact h1
 ·cases U with
  |no=>rfl
  |put d z=>simp only[cj.dst,gB]at h2;simp[cj.bA,FR.put,h2]
  |loc d z=>
   simp only[cj.dst,gB]at h2;simp only[cj.bA,FR.eT,az h2];rw[e1];rfl
theorem zv4(ho:o.op=.call ⟨.builtin .append,args,ts⟩)(h:aM P nt o K (U.bA fr) H):aM P nt o (λf h=>K (U.bA f) h/\mp e o fr H f h) fr H:=by
 simp only[aM,ho]at h⊢;split at h
 ·rename_i s x t t' ha ht;split at h
  ·rename_i xZ;rw[aB xZ];have MV:s∈o.op.operands.toList:=by rw[ho];simp[Op.operands,Call.operands,ha]
   have gD:x∈o.op.operands.toList:=by rw[ho];simp[Op.operands,Call.operands,ha]
   simp only[XO hA hW hS hc MV]at h;cases hx:bh fr H s with
   |none=>rw[hx]at h;cases h
   |some r=>
    obtain⟨sv,f,h'⟩:=r;rw[hx]at h;simp only[l9]at h⊢
    have iX:iy P t (U.bA f) h' x=iy P t f h' x:=by
     cases x with
     |tmp u=>
      have gN:=hW.of gD u (by simp[dT]);have:=ztn (hA.sl u gN) (hS.s u gN) ((qP hx).2.1 u);simp only[iy,this]
     |const c=>
      cases c<;>try rfl
      rename_i p n m;cases p<;>cases n<;>cases m<;>rfl
     |_=>rfl
    rw[iX]at h;split at h
    ·rename_i new mm hn;split at h
     ·rename_i v o4 hv;exact n9 h hA.ds (λs k hh=>by cases hh) (zW (h:=h') (qP hx).1 (qP hx).2.1 λ_ h2=>by rw[ho]at h2;simp[se]at h2)
     ·cases h
    ·cases h
  ·cases h
 ·cases h
theorem zzn(ho:o.op=.call ⟨.builtin .copy,args,ts⟩)(h:aM P nt o K (U.bA fr) H):aM P nt o (λf h=>K (U.bA f) h/\mp e o fr H f h) fr H:=by
 simp only[aM,ho]at h⊢;split at h
 ·rename_i x y t t' ha ht;have gD:x∈o.op.operands.toList:=by rw[ho];simp[Op.operands,Call.operands,ha]
  have hmy:y∈o.op.operands.toList:=by rw[ho];simp[Op.operands,Call.operands,ha]
  have iX:iy P t (U.bA fr) H y=iy P t fr H y:=by
   cases y with
   |tmp u=>simp only[iy,hS.s u (hW.of hmy u (by simp[dT]))]
   |const c=>
    cases c<;>try rfl
    rename_i p n m;cases p<;>cases n<;>cases m<;>rfl
   |_=>rfl
  rw[iX,mZ hS (hW.of gD)]at h;split at h
  ·split at h
   ·split at h
    ·rename_i kX;rw[aB kX];split at h
     ·exact n9 h hA.ds (λs k hh=>by cases hh) (zW (h:=H) (λ_ _=>rfl) (λ_=>.inl rfl) λh1=>by rw[hW.call (.inl (by simp[ho,NY]))]at h1;cases h1)
     ·cases h
    ·cases h
   ·cases h
  ·cases h
 ·cases h
theorem zye{a x:Operand}(ho:o.op=.store t a x)(h:aM P nt o K (U.bA fr) H):aM P nt o (λf h=>K (U.bA f) h/\mp e o fr H f h) fr H:=by
 have gD:x∈o.op.operands.toList:=by simp[ho,Op.operands]
 have hma:a∈o.op.operands.toList:=by simp[ho,Op.operands]
 simp only[aM,ho,XO hA hW hS hc gD]at h⊢;cases hx:bh fr H x with
 |none=>rw[hx]at h;cases h
 |some r=>
  obtain⟨v,f,h'⟩:=r;rw[hx]at h;simp only[l9]at h⊢;cases hz:cA P t with
  |none=>rw[hz]at h;cases h
  |some z=>
   obtain⟨gg,sz,rr⟩:=z;rw[hz]at h;simp only at h⊢;split at h
   ·rename_i kX;rw[aB kX]
    have nj:bM (U.bA f) a=bM f a/\∀s k,bM f a=J (.lp s k)->s∈e.rg/\U.bA f s=f s:=by
     have Bx:∀s,s∈e.rg->∀cs,f s=.loc cs->U.bA f s=.loc cs:=λs hs cs hf=>(PI (hA.rg s hs) cs).2 hf
     have AbS:∀s,s∈e.rg->∀cs,U.bA f s=.loc cs->f s=.loc cs:=λs hs cs hf=>(PI (hA.rg s hs) cs).1 hf
     cases a with
     |tmp u=>
      have gN:=hW.of hma u (by simp[dT]);have hu:=ztn (hA.sl u gN) (hS.s u gN) ((qP hx).2.1 u)
      have hk:∀y,f u=y->Wt y=Z->sS e.rg e.ls u y=Z:=by
       intro y hy hr;simp only[jQ,bI]at hc;have:=Dr hc.1 u gN;rcases(qP hx).2.1 u with e1|⟨_,w,e1⟩
       ·rw[<-hy,e1];exact this
       ·rw[hy]at e1;subst e1;cases hr
      simp only[bM,hu];cases ny:f u with
      |lp s k=>
       have hs:s∈e.rg:=LZ (hk _ ny rfl);simp only;constructor
       ·cases jC:f s with
        |loc cs=>rw[Bx s hs cs jC]
        |_=>
         cases O6:U.bA f s with
         |loc cs=>rw[AbS s hs cs O6]at jC;cases jC
         |_=>rfl
       ·intro s' k' hh;cases jC:f s with
        |loc cs=>rw[jC]at hh;cases hh;exact⟨hs,by rw[Bx s hs cs jC,jC]⟩
        |_=>rw[jC]at hh;cases hh
      |loc cs=>
       refine⟨rfl,λs' k' hh=>?_⟩;cases hh;have hs:u∈e.rg:=Va (hk _ ny rfl);exact⟨hs,by rw[Bx u hs cs ny,ny]⟩
      |v y=>exact⟨rfl,λ_ _ hh=>by cases hh⟩
      |skip=>exact⟨rfl,λ_ _ hh=>by cases hh⟩
      |ls=>exact⟨rfl,λ_ _ hh=>by cases hh⟩
     |const c=>exact⟨rfl,λs k hh=>by simp only[bM,be]at hh;split at hh<;>cases hh⟩
     |func c=>exact⟨rfl,λs k hh=>by simp only[bM,be]at hh;cases hh⟩
     |global c=>exact⟨rfl,λs k hh=>by simp only[bM,be]at hh;cases hh⟩
    rw[nj.1]at h;have K0:r6 o.op=Z:=by rw[ho];rfl
    have hap:se o.op=aa:=by rw[ho];rfl
    split at h
    ·rename_i s k hr;obtain⟨hs,O6⟩:=nj.2 s k hr;rw[O6]at h;cases jC:f s with
     |loc cells=>
      rw[jC]at h;simp only at h⊢;cases hp:fW cells k v.cells.toList with
      |none=>rw[hp]at h;cases h
      |some cs=>
       rw[hp]at h;simp only at h⊢;rw[Ha (hA.rg s hs) (by intro a b hh;cases hh)]at h;refine n9 h hA.ds (λs k hh=>by cases hh) ?_;have Pz:=uc (e:=e) (fr:=f.put s (.loc cs)) (H:=h') (o:=o) (x:=.skip);have hm:=qP hx;refine⟨λt a b c d=>?_,λs2 a b c2=>?_,λh1 h2 _=>(XQ hW hc gD hx h1 h2).2⟩
       ·have hne:t≠s:=by rintro rfl;exact b K0 hs
        have e1:=hm.1 t c;rw[Pz.s t a b (by simp only[FR.put,az hne];rw[e1];exact c) (by simp only[FR.put,az hne];rw[e1];exact d)];simp only[FR.put,az hne];exact e1
       ·have hne:s2≠s:=by rintro rfl;exact b K0 hs
        rw[Pz.r s2 a b c2];simp only[FR.put,az hne];rcases hm.2.1 s2 with e1|⟨⟨l,es,cc,e1⟩,y,e2⟩
        ·rw[e1]
        ·rw[e1,e2];simp
     |_=>rw[jC]at h;cases h
    ·rename_i id off hr;split at h
     ·rename_i b hb;split at h
      ·rename_i bc;rw[aB bc];split at h
       ·rename_i cs dQ;refine n9 h hA.ds (λs k hh=>by cases hh) (zW (h:=h') (qP hx).1 (qP hx).2.1 λh1 h2 h3=>?_);exfalso;rcases hW.mr (.inr K0)with h4|⟨u,h4,h5⟩
        ·exact h3 K0 h4
        ·
         simp only[jQ,bI]at hc;have h6:=hc.2;rw[h4]at h6;simp only[DI]at h6;rw[ho]at h5;cases a with
         |tmp u'=>
          simp only[CG,aT]at h5;subst h5;obtain⟨rfl,rfl⟩:=XQ hW (by simp only[jQ,bI];exact hc) gD hx h1 h2;simp only[bM]at hr;cases ny:f u' with
          |loc cs=>rw[ny]at hr;cases hr
          |lp s k=>rw[ny]at hr;simp only at hr;split at hr<;>cases hr
          |v y=>rw[ny]at h6;cases h6
          |skip=>rw[ny]at hr;cases hr
          |ls=>rw[ny]at h6;cases h6
         |_=>simp[CG]at h5
       ·cases h
      ·cases h
     ·cases h
    ·cases h
   ·cases h
theorem Zz(h:aM P nt o K (U.bA fr) H):aM P nt o (λf h=>K (U.bA f) h/\mp e o fr H f h) fr H:=by
 cases ho:o.op with
 |load=>exact zzF hA hW hS hc ho h
 |fieldAddr=>
  have:=TB (P:=P) (nt:=nt) (K:=K) (H:=H) hA hW hS hc (by simp only[aM,ho]at h;rw[ho];exact h);simp only[aM,ho];rw[ho]at this;exact this
 |indexAddr t x i=>
  simp only[aM,ho]at h⊢;rcases h with h|⟨u,l,es,cs,k,j,el,g,z,rfl,a2,a3,a4,a5,a6,a7⟩
  ·have:=TB (P:=P) (nt:=nt) (K:=K) (H:=H) hA hW hS hc (by rw[ho];exact h);rw[ho]at this;exact .inl this
  ·have hu:=hW.of (x:=.tmp u) (by simp[ho,Op.operands]) u (by simp[dT]);rw[hS.s u hu]at a2;rw[mZ hS (hW.of (x:=i) (by simp[ho,Op.operands]))]at a3;rw[Ha (hA.sl u hu) (by intro s k hh;cases hh)]at a7;refine .inr ⟨u,l,es,cs,k,j,el,g,z,rfl,a2,a3,a4,a5,a6,n9 a7 hA.ds (λs k hh=>by cases hh) ?_⟩;refine zW (h:=H) (λt ht=>?_) (λt=>?_) λh1 h2 _=>absurd a2 (Ad hW hc h1 h2 u hu l es cs)
   ·by_cases hh:t=u
    ·subst hh;exact absurd a2 (ht l es cs)
    ·simp[FR.put,hh]
   ·by_cases hh:t=u
    ·subst hh;exact .inr ⟨⟨l,es,cs,a2⟩,.slice (J ⟨H.n,0,J es⟩) l l,by simp[FR.put]⟩
    ·left;simp[FR.put,hh]
 |nilCheck=>
  have:=TB (P:=P) (nt:=nt) (K:=K) (H:=H) hA hW hS hc (by simp only[aM,ho]at h;rw[ho];exact h);simp only[aM,ho];rw[ho]at this;exact this
 |alloc=>exact zxm hA hW hS hc ho h
 |box=>exact zA1 hA hW hS hc ho h
 |buildSlice=>exact zq5 hA hW hS hc ho h
 |store=>exact zye hA hW hS hc ho h
 |pick=>exact zy1 hA hW hS hc ho h
 |makeSlice=>exact zrF hA hW hS hc ho h
 |move=>exact Zg hA hW hS hc (.inl ho) h
 |assign=>exact Zg hA hW hS hc (.inr ho) h
 |convert s t x=>
  simp only[aM,ho]at h⊢;rcases h with h|⟨h1,l,ns,h2,h3⟩
  ·exact .inl (JM hA hW hS hc h)
  ·refine .inr ⟨h1,l,ns,?_,n9 h3 hA.ds (λs k hh=>by cases hh) uc⟩;rw[<-h2];cases x with
   |tmp u=>simp only[D8,hS.s u (hW.of (x:=.tmp u) (by simp[ho,Op.operands]) u (by simp[dT]))]
   |_=>rfl
 |call c=>
  obtain⟨callee,args,ts⟩:=c;cases callee with
  |value fn=>exact zy0 hA hW hS hc ho h
  |builtin b=>
   cases b with
   |append=>exact zv4 hA hW hS hc ho h
   |copy=>exact zzn hA hW hS hc ho h
   |_=>simp only[aM,ho]at h⊢;exact JM hA hW hS hc h
  |_=>simp only[aM,ho]at h⊢;exact JM hA hW hS hc h
 |_=>simp only[aM,ho]at h⊢;exact JM hA hW hS hc h
theorem zBY(h:nm P nt pre o K (U.bA fr) H):nm P nt pre o (λf h=>K (U.bA f) h/\mp e o fr H f h) fr H:=by
 have hy:∀j b,o.guard=J (j,b)->oM (U.bA fr) pre j=oM fr pre j:=by
  intro j b hg;unfold oM;cases hp:pre[j]? with
  |none=>rfl
  |some d=>
   cases d with
   |none=>rfl
   |some d=>
    simp only;rw[hS.s d (hW.sl d (yy _ (by simp[Tz,hg,hp])))]
 unfold nm at h⊢;cases hg:o.guard with
 |none=>rw[hg]at h;exact Zz hA hW hS hc h
 |some p=>
  obtain⟨j,b⟩:=p;rw[hg]at h;simp only[hy j b hg]at h⊢;cases hv:oM fr pre j with
  |none=>rw[hv]at h;cases h
  |some y=>
   rw[hv]at h;simp only at h⊢;split at h
   ·rename_i e1;rw[aB e1];exact Zz hA hW hS hc h
   ·rename_i e1;rw[az e1];exact n9 h hA.ds (λs k hh=>by cases hh) uc
end
section
variable {P:Program}{nt:Nat}{pre:List (Option Tmp)}{e:DE}{o:Oper}{f g fr:FR}{H:AH}{U:cj}{K:FR->AH->Prop}
variable{d:Option Tmp}{x:FV}
theorem zyM{x:Operand}{v:Value}{f1:FR}{h1:AH}(hs:∀t,t∈dT x->f t=fr t)(hn:∀t,t∈dT x->∀l es cs,fr t≠.ls l es cs)(hm:bh fr H x=J (v,f1,h1))(h:AH):bh f h x=J (v,f,h):=by
 have hr:=((qP hm).2.2 hn).2.2;cases x with
 |tmp t=>
  simp only[be]at hr;simp only[bh,hs t (by simp[dT])];cases hf:fr t with
  |v y=>rw[hf]at hr;cases hr;rfl
  |_=>rw[hf]at hr;cases hr
 |const c=>simp only[bh];simp only[be]at hr⊢;rw[hr];rfl
 |func c=>simp only[bh];simp only[be]at hr⊢;rw[hr];rfl
 |global c=>cases hr
theorem Yw:∀{xs:List Operand}{vs:List Value}{f1:FR}{h1:AH}(_:∀t,t∈xs.flatMap dT->f t=fr t) (_:∀t,t∈xs.flatMap dT->∀l es cs,fr t≠.ls l es cs) (_:ck fr H xs=J (vs,f1,h1)) (h:AH),ck f h xs=J (vs,f,h):=by
 intro xs;induction xs with
 |nil=>intro vs f1 h1 _ _ hm h;cases hm;rfl
 |cons x xs ih=>
  intro vs f1 h1 hs hn hm h;simp only[Dc,jY]at hs hn;simp only[ck]at hm;cases e1:bh fr H x with
  |none=>rw[e1]at hm;cases hm
  |some r=>
   obtain⟨v,f2,h2⟩:=r;have hx:=(qP e1).2.2 λt ht=>hn t (.inl ht)
   obtain⟨rfl,rfl,_⟩:=hx;rw[e1]at hm;simp only at hm;cases e2:ck f2 h2 xs with
   |none=>rw[e2]at hm;cases hm
   |some r=>
    obtain⟨HA,f3,h3⟩:=r;rw[e2]at hm;cases hm;simp only[ck,zyM (λt ht=>hs t (.inl ht)) (λt ht=>hn t (.inl ht)) e1 h,ih (λt ht=>hs t (.inr ht)) (λt ht=>hn t (.inr ht)) e2 h]
theorem zBj(h:bB nt K d x fr H):(∀t,d=J t->t<nt)/\K ((cj.of d x).bA fr) H:=by
 cases d with
 |none=>exact⟨λ_ h=>(by cases h),h⟩
 |some d=>
  simp only[bB]at h;split at h
  ·rename_i hd;exact⟨λt e=>by cases e;exact hd,h⟩
  ·cases h
theorem zB1(hd:∀t,d=J t->t<nt)(h:K ((cj.of d x).bA fr) H):bB nt K d x fr H:=by
 cases d with
 |none=>exact h
 |some d=>simp only[bB];rw[aB (hd d rfl)];exact h
theorem zDD :(cj.of d x).dst=d.toList:=by cases d<;>rfl
theorem zHD{t s k:Nat}(h:cj.of d x=.put t (.lp s k)):x=.lp s k:=by
 cases d with
 |none=>cases h
 |some d=>simp only[cj.of,cj.put.injEq]at h;exact h.2
def Cj(_:Program)(_:Nat)(e:DE)(o:Oper)(fr:FR)(H:AH)(K:FR->AH->Prop)(run:(FR->AH->Prop)->FR->AH->Prop):Prop:=
 ∃U:cj,U.dst=o.dst.toList/\(∀d s k,U=.put d (.lp s k)->s∈e.rg)/\K (U.bA fr) H/\
  ∀(f:FR) (h:AH) (K':FR->AH->Prop),pi e f fr->(C2 o.op=Z->e.rg=[]->fu H h)->K' (U.bA f) h->run K' f h
theorem yI{run:(FR->AH->Prop)->FR->AH->Prop}(hx:∀s k,x=.lp s k->s∈e.rg)(h:bB nt K o.dst x fr H)
(hr:∀(f:FR) (h:AH) (K':FR->AH->Prop),pi e f fr->(C2 o.op=Z->e.rg=[]->fu H h)->bB nt K' o.dst x f h->run K' f h):Cj P nt e o fr H K run:=by
 have:=zBj h;exact⟨cj.of o.dst x,zDD,λd s k hu=>hx s k (zHD hu),this.2,λf h K' hS hL hK=>hr f h K' hS hL (zB1 this.1 hK)⟩
variable (hW:WF pre e o) (hs:TI e o=Z) (hc:jQ e fr=Z)
include hW hs hc
theorem Pe:e.ext=aa/\se o.op=aa/\r6 o.op=aa:=by
 simp only[TI,bI,qc]at hs;exact⟨hs.1.1,hs.1.2,hs.2⟩
theorem Ob{xs:List Operand}(hp:gp o.op=J xs)(h:dw P nt o K fr H):Cj P nt e o fr H K (dw P nt o):=by
 have hm:=znR hp;have dU:=Pe hW hs hc;unfold dw at h;rw[hp]at h;simp only at h;cases hx:ck fr H xs with
 |none=>rw[hx]at h;cases h
 |some r=>
  obtain⟨vs,f,h'⟩:=r;obtain⟨rfl,rfl⟩:=LP hW hc hm hx dU.1 dU.2.1;rw[hx]at h;simp only at h;cases hv:eG P o.op vs with
  |none=>rw[hv]at h;cases h
  |some v=>
   rw[hv]at h;refine yI (λs k hh=>by cases hh) h λf2 h2 K' hS _ hK=>?_
   unfold dw;rw[hp];simp only;rw[Yw (λt ht=>hS.s t (hW.eu hm t ht)) (λt ht=>Ad hW hc dU.1 dU.2.1 t (hW.eu hm t ht)) hx h2];simp only[hv];exact hK
theorem VM(h:aM P nt o K fr H):Cj P nt e o fr H K (aM P nt o):=by
 have dU:=Pe hW hs hc
 have tC:(∀K fr H,aM P nt o K fr H=dw P nt o K fr H)->Cj P nt e o fr H K (aM P nt o):=by
  intro he;have e1:aM P nt o=dw P nt o:=by funext K fr H;exact he K fr H
  rw[e1]at h⊢;cases hp:gp o.op with
  |none=>unfold dw at h;rw[hp]at h;cases h
  |some xs=>exact Ob hW hs hc hp h
 have QS:(match iu P fr o.op with|some x=>bB nt K o.dst x fr H|none=>False)->(∀K fr H,(match iu P fr o.op with|some x=>bB nt K o.dst x fr H|none=>False)->aM P nt o K fr H)->Cj P nt e o fr H K (aM P nt o):=by
  intro h he;cases hv:iu P fr o.op with
  |none=>rw[hv]at h;cases h
  |some y=>
   rw[hv]at h;refine yI (λs k hh=>V0 hW hc (by rw[hv,hh])) h λf2 h2 K' hS _ hK=>?_
   apply he
   have e2:iu P f2 o.op=iu P fr o.op:=by
    cases ho:o.op<;>simp only[iu]
    ·rename_i x;rw[qF hS hc (hW.of (by simp[ho,Op.operands]))]
    ·rename_i t x f;rw[qF hS hc (hW.of (by simp[ho,Op.operands]))]
    ·rename_i t x i;rw[qF hS hc (hW.of (by simp[ho,Op.operands])),mZ hS (hW.of (by simp[ho,Op.operands]))]
   rw[e2,hv];exact hK
 cases ho:o.op with
 |load t a=>
  have hx:∀t,t∈dT a->t∈e.sl:=hW.of (by simp[ho,Op.operands])
  have he:∀K fr H,aM P nt o K fr H=match mU P t (mE fr H a)with|some v=>bB nt K o.dst (.v v) fr H|none=>False:=by
   intro K fr H;simp only[aM,ho];rfl
  rw[he]at h;cases hv:mU P t (mE fr H a)with
  |none=>rw[hv]at h;cases h
  |some v=>
   rw[hv]at h;refine yI (λs k hh=>by cases hh) h λf2 h2 K' hS hL hK=>?_
   rw[he]
   have hne:∃cs,mE fr H a=J cs:=by
    cases hl:mE fr H a with
    |none=>rw[hl]at hv;unfold mU at hv;split at hv<;>simp_all
    |some cs=>exact⟨cs,rfl⟩
   obtain⟨cs,dQ⟩:=hne
   have e2:mE f2 h2 a=mE fr H a:=by
    rw[dQ];unfold mE at dQ⊢;rw[qF hS hc hx];cases hr:bM fr a with
    |none=>rw[hr]at dQ;cases dQ
    |some y=>
     rw[hr]at dQ;cases y with
     |lp s k=>
      obtain⟨h1,c2,h3⟩:=zw hc hx hr;simp only at dQ⊢;rw[h3]at dQ;rw[(hS.r s h1 c2).2 h3];exact dQ
     |v y=>
      cases y<;>try (cases dQ;done)
      rename_i p;cases p with
      |none=>cases dQ
      |some p=>
       obtain⟨id,off,sp⟩:=p;cases sp with
       |some _=>cases dQ
       |none=>
        have hrg:e.rg=[]:=by
         rcases hW.mr (.inl (by rw[ho];rfl))with h4|⟨u,h4,h5⟩
         ·exact h4
         ·exfalso;simp only[jQ,bI]at hc;have h6:=hc.2;rw[h4]at h6;simp only[DI]at h6;rw[ho]at h5;cases a with
          |tmp u'=>
           simp only[CG,aT]at h5;subst h5;simp only[bM]at hr;cases ny:fr u' with
           |loc cs=>rw[ny]at hr;cases hr
           |lp s k=>rw[ny]at hr;simp only at hr;split at hr<;>cases hr
           |v y=>rw[ny]at h6;cases h6
           |skip=>rw[ny]at hr;cases hr
           |ls=>rw[ny]at h6;cases h6
          |_=>simp[CG]at h5
        have hE:=hL (by rw[ho];rfl) hrg;simp only[AH.load,bN]at dQ⊢;obtain⟨b,h7,h8⟩:=dQ;exact⟨b,hE.2 id b h7,h8⟩
     |_=>cases dQ
   rw[e2,hv];exact hK
 |fieldAddr=>exact QS (by simp only[aM,ho]at h;rw[ho];exact h) (λK fr H hh=>by simp only[aM,ho];rw[ho]at hh;exact hh)
 |indexAddr t x i=>
  have h1:=h;simp only[aM,ho]at h1;rcases h1 with h1|⟨u,l,es,cs,k,j,el,g,z,rfl,a2,_⟩
  ·exact QS (by rw[ho];exact h1) (λK fr H hh=>by simp only[aM,ho];rw[ho]at hh;exact .inl hh)
  ·exact absurd a2 (Ad hW hc dU.1 dU.2.1 u (hW.of (x:=.tmp u) (by simp[ho,Op.operands]) u (by simp[dT])) l es cs)
 |nilCheck=>exact QS (by simp only[aM,ho]at h;rw[ho];exact h) (λK fr H hh=>by simp only[aM,ho];rw[ho]at hh;exact hh)
 |alloc t=>
  have he:∀K fr H,aM P nt o K fr H=match cA P t,o.dst with
   |some (_,_,_,z),J d=>if d<nt/\z.all cr=Z then K (fr.eT d z) H else False
   |_,_=>False:=by intro K fr H;simp only[aM,ho];rfl
  rw[he]at h;split at h
  ·rename_i a1 a2 a3 z d hz hd;split at h
   ·rename_i kX;refine⟨.loc d z,by simp[cj.dst,hd],λ_ _ _ hh=>(by cases hh),h,λf2 h2 K' _ _ hK=>?_⟩;rw[he,hz,hd];simp only;rw[aB kX];exact hK
   ·cases h
  ·cases h
 |box t x=>
  have he:∀K fr H,aM P nt o K fr H=match cA P t,be fr x,o.dst with
   |some _,J v,J d=>if d<nt/\ml v=Z then K (fr.eT d v.cells.toList) H else False
   |_,_,_=>False:=by intro K fr H;simp only[aM,ho];rfl
  rw[he]at h;split at h
  ·rename_i z v d hz hv hd;split at h
   ·rename_i kX;refine⟨.loc d v.cells.toList,by simp[cj.dst,hd],λ_ _ _ hh=>(by cases hh),h,λf2 h2 K' hS _ hK=>?_⟩;rw[he,hz,hd,mZ hS (hW.of (x:=x) (by simp[ho,Op.operands])),hv];simp only;rw[aB kX];exact hK
   ·cases h
  ·cases h
 |buildSlice t len ps=>
  have hm:∀x,x∈ps.toList.map (·.2)->x∈o.op.operands.toList:=by intro x hx;simpa[ho,Op.operands]using hx
  have he:∀K fr H,aM P nt o K fr H=match cR P t,o.dst,ck fr H (ps.toList.map (·.2))with
   |some e,J d,J (vs,ai,H')=>match cA P e with
    |some (_,es,_,z)=>if d<nt/\len*es<=2^24/\z.length=es/\es≠0/\z.all cr=Z then
     match jx (λi=>J (i*es,es)) ((ps.toList.map (·.1)).zip vs) ((List.replicate len z).flatten)with
     |some cs=>K (ai.put d (.ls len es cs)) H'
     |none=>False
     else False
    |none=>False
   |_,_,_=>False:=by intro K fr H;simp only[aM,ho];rfl
  rw[he]at h;cases h1:cR P t with
  |none=>rw[h1]at h;cases h
  |some el=>
   cases hd:o.dst with
   |none=>rw[h1,hd]at h;cases h
   |some d=>
    cases hx:ck fr H (ps.toList.map (·.2))with
    |none=>rw[h1,hd,hx]at h;cases h
    |some r=>
     obtain⟨vs,f,h'⟩:=r;obtain⟨rfl,rfl⟩:=LP hW hc hm hx dU.1 dU.2.1;rw[h1,hd,hx]at h;simp only at h;cases hz:cA P el with
     |none=>rw[hz]at h;cases h
     |some z=>
      obtain⟨gg,es,b,z⟩:=z;rw[hz]at h;simp only at h;split at h
      ·rename_i kX;cases hf:jx (λi=>J (i*es,es)) ((ps.toList.map (·.1)).zip vs) ((List.replicate len z).flatten)with
       |none=>rw[hf]at h;cases h
       |some cs=>
        rw[hf]at h;refine⟨.put d (.ls len es cs),by simp[cj.dst,hd],λ_ _ _ hh=>(by cases hh),h,λf2 h2 K' hS _ hK=>?_⟩;rw[he,h1,hd,Yw (λt ht=>hS.s t (hW.eu hm t ht)) (λt ht=>Ad hW hc dU.1 dU.2.1 t (hW.eu hm t ht)) hx h2];simp only[hz];rw[aB kX,hf];exact hK
      ·cases h
 |pick c a b=>
  have uW:=λ{f2:FR}(hS:pi e f2 fr)=>mZ hS (hW.of (x:=c) (by simp[ho,Op.operands]))
  have ha':=λ{f2:FR}(hS:pi e f2 fr)=>mZ hS (hW.of (x:=a) (by simp[ho,Op.operands]))
  have gK:=λ{f2:FR}(hS:pi e f2 fr)=>mZ hS (hW.of (x:=b) (by simp[ho,Op.operands]))
  have he:∀K fr H,aM P nt o K fr H=match be fr c with
   |some (.bool Z)=>match be fr a with
    |some v=>bB nt K o.dst (.v v) fr H
    |none=>False
   |some (.bool aa)=>match be fr b with
    |some v=>bB nt K o.dst (.v v) fr H
    |none=>False
   |_=>False:=by intro K fr H;simp only[aM,ho];rfl
  rw[he]at h;split at h
  ·rename_i QQ;split at h
   ·rename_i v hv;refine yI (λs k hh=>by cases hh) h λf2 h2 K' hS _ hK=>?_
    rw[he,uW hS,QQ];simp only;rw[ha' hS,hv];exact hK
   ·cases h
  ·rename_i QQ;split at h
   ·rename_i v hv;refine yI (λs k hh=>by cases hh) h λf2 h2 K' hS _ hK=>?_
    rw[he,uW hS,QQ];simp only;rw[gK hS,hv];exact hK
   ·cases h
  ·cases h
 |makeSlice=>exact absurd (hW.call (.inr (by rw[ho];rfl))) (by rw[dU.1];decide)
 |store=>have:=dU.2.2;rw[ho]at this;cases this
 |move x=>
  have hx:∀t,t∈dT x->t∈e.sl:=hW.of (by simp[ho,Op.operands])
  have he:∀K fr H,aM P nt o K fr H=match bM fr x with
   |some (.lp s off)=>bB nt K o.dst (.lp s off) fr H
   |_=>dw P nt o K fr H:=by intro K fr H;simp only[aM,ho];rfl
  rw[he]at h;split at h
  ·rename_i s k hr;refine yI (λs' k' hh=>by cases hh;exact(zw hc hx hr).1) h λf2 h2 K' hS _ hK=>?_
   rw[he,qF hS hc hx,hr];exact hK
  ·rename_i hr;obtain⟨U,h1,h2,h3,h4⟩:=Ob hW hs hc (xs:=[x]) (by rw[ho];rfl) h;refine⟨U,h1,h2,h3,λf2 h2 K' hS hL hK=>?_⟩;rw[he,qF hS hc hx];have:=h4 f2 h2 K' hS hL hK;split
   ·rename_i s k hJ;exact absurd hJ (hr s k)
   ·exact this
 |assign x=>
  have hx:∀t,t∈dT x->t∈e.sl:=hW.of (by simp[ho,Op.operands])
  have he:∀K fr H,aM P nt o K fr H=match bM fr x with
   |some (.lp s off)=>bB nt K o.dst (.lp s off) fr H
   |_=>dw P nt o K fr H:=by intro K fr H;simp only[aM,ho];rfl
  rw[he]at h;split at h
  ·rename_i s k hr;refine yI (λs' k' hh=>by cases hh;exact(zw hc hx hr).1) h λf2 h2 K' hS _ hK=>?_
   rw[he,qF hS hc hx,hr];exact hK
  ·rename_i hr;obtain⟨U,h1,h2,h3,h4⟩:=Ob hW hs hc (xs:=[x]) (by rw[ho];rfl) h;refine⟨U,h1,h2,h3,λf2 h2 K' hS hL hK=>?_⟩;rw[he,qF hS hc hx];have:=h4 f2 h2 K' hS hL hK;split
   ·rename_i s k hJ;exact absurd hJ (hr s k)
   ·exact this
 |call c=>
  obtain⟨callee,args,ts⟩:=c;cases callee with
  |value fn=>exact absurd (hW.call (.inl (by rw[ho];rfl))) (by rw[dU.1];decide)
  |builtin b=>
   cases b with
   |append=>have:=dU.2.1;rw[ho]at this;cases this
   |copy=>exact absurd (hW.call (.inl (by rw[ho];rfl))) (by rw[dU.1];decide)
   |_=>exact tC (λK fr H=>by simp only[aM,ho])
  |_=>exact tC (λK fr H=>by simp only[aM,ho])
 |convert s t x=>
  have he:∀K fr H,aM P nt o K fr H=(dw P nt o K fr H\/((sM P s=Z/\dW P t=Z/\o.dst.isSome=Z)/\∃l ns,D8 fr x=J (l,ns.map (Value.int .u8))/\bB nt K o.dst (.v (.string (xL ns))) fr H)):=by intro K fr H;simp only[aM,ho]
  rw[he]at h;rcases h with h|⟨h1,l,ns,h2,h3⟩
  ·obtain⟨U,h1,h2,h3,h4⟩:=Ob hW hs hc (xs:=[x]) (by rw[ho];rfl) h;refine⟨U,h1,h2,h3,λf2 h2 K' hS hL hK=>?_⟩;rw[he];exact .inl (h4 f2 h2 K' hS hL hK)
  ·exfalso;cases x with
   |tmp u=>
    simp only[D8]at h2;cases hf:fr u with
    |ls len es cells=>exact Ad hW hc dU.1 dU.2.1 u (hW.of (x:=.tmp u) (by simp[ho,Op.operands]) u (by simp[dT])) _ _ _ hf
    |_=>rw[hf]at h2;cases h2
   |_=>cases h2
 |_=>exact tC (λK fr H=>by simp only[aM,ho])
theorem zzr(h:nm P nt pre o K fr H):Cj P nt e o fr H K (nm P nt pre o):=by
 have hy:∀{f:FR}(_:pi e f fr) j b,o.guard=J (j,b)->oM f pre j=oM fr pre j:=by
  intro f hS j b hg;unfold oM;cases hp:pre[j]? with
  |none=>rfl
  |some d=>
   cases d with
   |none=>rfl
   |some d=>
    simp only;rw[hS.s d (hW.sl d (yy _ (by simp[Tz,hg,hp])))]
 unfold nm at h;cases hg:o.guard with
 |none=>
  rw[hg]at h;obtain⟨U,h1,h2,h3,h4⟩:=VM hW hs hc h;refine⟨U,h1,h2,h3,λf2 h2 K' hS hL hK=>?_⟩;unfold nm;rw[hg];exact h4 f2 h2 K' hS hL hK
 |some p=>
  obtain⟨j,b⟩:=p;rw[hg]at h;simp only at h;cases hv:oM fr pre j with
  |none=>rw[hv]at h;cases h
  |some y=>
   rw[hv]at h;simp only at h;split at h
   ·rename_i e1;obtain⟨U,h1,h2,h3,h4⟩:=VM hW hs hc h;refine⟨U,h1,h2,h3,λf2 h2 K' hS hL hK=>?_⟩;unfold nm;rw[hg];simp only;rw[hy hS j b hg,hv];simp only;rw[aB e1];exact h4 f2 h2 K' hS hL hK
   ·rename_i e1;refine yI (λs k hh=>by cases hh) h λf2 h2 K' hS _ hK=>?_
    unfold nm;rw[hg];simp only;rw[hy hS j b hg,hv];simp only;rw[az e1];exact hK
end
theorem PH{xs ys:List Nat}(h:Kc xs ys=Z):∀t,t∈xs->t∉ys:=by
 intro t ht hy;simp only[Kc,bm]at h;have:=h t ht;simp[hy]at this
section
variable {P:Program}{nt:Nat}{pre:List (Option Tmp)}{K:FR->AH->Prop}{fr:FR}{H:AH}
theorem zte{e:DE}{o:Oper}{K K2:FR->AH->Prop}(hk:∀fr H,K fr H->K2 fr H){fr:FR}{H:AH}(h:uN P nt pre e o K fr H):uN P nt pre e o K2 fr H:=
 ⟨h.1,O4 (λfr H h'=>⟨h'.1,hk fr H h'.2⟩) h.2⟩
theorem zxD:∀{l:List (DE×Oper)}{K K2:FR->AH->Prop}(_:∀fr H,K fr H->K2 fr H) {fr:FR}{H:AH},ir P nt pre l K fr H->ir P nt pre l K2 fr H:=by
 intro l;induction l with
 |nil=>intro K K2 hk fr H h;exact hk _ _ h
 |cons p l ih=>intro K K2 hk fr H h;exact zte (λ_ _ h'=>ih hk h') h
theorem swap{x y:DE}{p q:Oper}(wx:WF pre x p)(wy:WF pre y q)(hp:Fv x p y q=Z)(h:uN P nt pre x p (uN P nt pre y q K) fr H):uN P nt pre y q (uN P nt pre x p K) fr H:=by
 simp only[Fv,bI]at hp;obtain⟨⟨⟨⟨⟨h1,h2⟩,h3⟩,h4⟩,h5⟩,Wx⟩:=hp;have dU:=Pe wx h1 h.1;have d1:=PH h2;have d2:=PH h3;simp only[jY,not_or]at d1 d2
 obtain⟨U,hd,EE,⟨Vk,hy⟩,dS⟩:Cj P nt x p fr H (uN P nt pre y q K) (nm P nt pre p):=by
  refine zzr wx h1 h.1 ?_;exact O4 (λ_ _ hh=>hh.2) h.2
 have hA:RX U y q:=by
  refine⟨λt ht=>?_,λs hs=>?_,λt ht=>?_,λd s k hu hs=>(d2 s hs).2 (EE d s k hu)⟩
  ·rw[hd];intro hh;exact(d1 t hh).1.1 ht
  ·rw[hd];intro hh;exact(d1 s hh).1.2 hs
  ·rw[hd];intro hh;exact(d1 t hh).2 ht
 have hS:pi y (U.bA fr) fr:=zAX hA.sl hA.rg Vk
 have Aai:jQ y fr=Z:=by
  rw[<-YJ hS wy.U2];exact Vk
 refine⟨Aai,?_⟩;refine O4 ?_ (zBY hA wy hS Aai hy);rintro f h' ⟨⟨hE,hK⟩,hP⟩;refine⟨hE,?_⟩
 have Ve:pi x f fr:=by
  have dH:∀t,t∈x.sl\/t∈x.rg->r6 q.op=Z->t∉y.rg:=by
   intro t ht hs hr;simp only[hs,wc,Aap]at h5;have:=PH h5 t hr;simp only[jY,not_or]at this;rcases ht with ht|ht
   ·exact this.1 ht
   ·exact this.2 ht
  refine⟨λt ht=>?_,λs hs cs=>?_⟩
  ·refine hP.s t (λhh=>(d2 t hh).1 ht) (dH t (.inl ht)) (Ad wx h.1 dU.1 dU.2.1 t ht) ?_;intro d k hdq hf;have hk:=h.1;simp only[jQ,bI]at hk;have hk:=Dr hk.1 t ht;rw[hf]at hk;exact(d2 d hdq).2 (LZ hk)
  ·exact hP.r s (λhh=>(d2 s hh).2 hs) (dH s (.inr hs)) cs
 have hL:C2 p.op=Z->x.rg=[]->fu H h':=by
  intro hl hr;simp only[hl,hr,List.isEmpty_nil,Ud,wc,Aap]at Wx;simp only[hl,hr,List.isEmpty_nil,Ud,wc,Aap,bI,qc,tY]at h4;cases Qn:y.ext with
  |true=>exact hE (by simp only[DE.ex,Qn,Wx,Ud])
  |false=>
   rw [hP.h Qn h4.1 λhs => by rcases h4.2 with(h6|h6)|h6
                              ·rw[hs]at h6;cases h6
                              ·intro h7;rw[h7]at h6;cases h6
                              ·rw[Qn]at h6;cases h6]
   exact .refl H
 have:=dS f h' (λai H'=>(x.ex=Z->fu h' H')/\K ai H') Ve hL ⟨λhh=>(by simp only[DE.ex,dU.1,Aaq]at hh;cases hh),hK⟩;refine⟨?_,this⟩;rw[YJ Ve wx.U2];exact h.1
end
def P2(bs:List Nat)(o:Oper):Nat:=o.after.toList.foldl (λs e=>if Region.binds .any e then s|||2^e.on|||bs.getD e.on 0 else s) 0
def H6:List Oper->List Nat->List Nat
 |[],bs=>bs
 |o::r,bs=>H6 r (bs++[P2 bs o])
def Nu(bs:List Nat)(xs:List (Nat×Nat))(j:Nat)(o:Oper):Nat:=xs.foldl (λs p=>if p.2=j then s|||2^p.1|||bs.getD p.1 0 else s) (P2 bs o)
def Th(ops:List Oper)(xs:List (Nat×Nat)):Nat->List Nat->List Nat
 |0,bs=>bs
 |n+1,bs=>Th ops xs n ((List.range ops.length).map λj=>Nu bs xs j (ops.getD j default))
def BW(ops:List Oper)(bs:List Nat):List DE->Bool
 |[]=>Z
 |x::r=>(r.all λy=>y.i !=x.i&&((bs.getD y.i 0).testBit x.i||Fv x (ops.getD x.i default) y (ops.getD y.i default)))&&BW ops bs r
def G8(D:List DE)(ops:List Oper)(xs:List (Nat×Nat):=[]):Bool:=
 let bs:=if xs.isEmpty then H6 ops []else Th ops xs 6 (H6 ops [])
 let pre:=ops.map (·.dst)
 (D.length==ops.length)&&(xs.all λp=>Nat.blt p.1 ops.length&&p.1 !=p.2)&&
 ((List.range ops.length).all λj=>bs.getD j 0==Nu bs xs j (ops.getD j default)&&((ops.getD j default).after.toList.all λe=> !Region.binds .any e||Nat.blt e.on j)&&(D.map (·.i)).contains j)&&
 (D.all λx=>Nat.blt x.i ops.length&&SZ pre x (ops.getD x.i default))&&BW ops bs D
def CQ(run:List DE->Prop)(ops:List Oper):Nat->List (Nat×Nat)->Prop
 |0,xs=>∃D:List DE,G8 D ops xs=Z/\run D
 |n+1,xs=>∃a b,a≠b/\CQ run ops n ((a,b)::xs)/\CQ run ops n ((b,a)::xs)
theorem R6{run Zy:List DE->Prop}{ops:List Oper}(hk:∀D,run D->Zy D):∀{n:Nat}{xs:List (Nat×Nat)},CQ run ops n xs->CQ Zy ops n xs:=by
 intro n;induction n with
 |zero=>intro xs ⟨D,h,h'⟩;exact⟨D,h,hk D h'⟩
 |succ n ih=>intro xs ⟨a,b,h,h1,h2⟩;exact⟨a,b,h,ih h1,ih h2⟩
def L2(P:Program)(nt:Nat)(ops:Array Oper)(K:FR->AH->Prop)(fr:FR)(H:AH):Prop:=
 P.follows .mixedOrders=Z/\∃n,CQ (λD=>ir P nt (ops.toList.map (·.dst)) (D.map λx=>(x,ops.toList.getD x.i default)) K fr H) ops.toList n []
theorem zvM{P:Program}{nt:Nat}{ops:Array Oper}{K K2:FR->AH->Prop}(hk:∀fr H,K fr H->K2 fr H){fr:FR}{H:AH}(h:L2 P nt ops K fr H):L2 P nt ops K2 fr H:=
 let⟨h0,n,h1⟩:=h;⟨h0,n,R6 (λ_=>zxD hk) h1⟩
theorem zBd{bs:List Nat}{o:Oper}{x:Nat}(h:(P2 bs o).testBit x=Z):∃e,e∈o.after.toList/\Region.binds .any e=Z/\(e.on=x\/(bs.getD e.on 0).testBit x=Z):=by
 have key:∀(l:List Edge) (s:Nat),(l.foldl (λs e=>if Region.binds .any e then s|||2^e.on|||bs.getD e.on 0 else s) s).testBit x=Z->s.testBit x=Z\/∃e,e∈l/\Region.binds .any e=Z/\(e.on=x\/(bs.getD e.on 0).testBit x=Z):=by
  intro l;induction l with
  |nil=>intro s h;exact .inl h
  |cons e l ih=>
   intro s h;simp only[Or]at h;rcases ih _ h with h1|⟨e',h1,h2⟩
   ·split at h1
    ·rename_i hb;rw[Ue,Ue]at h1;simp only[tY]at h1;rcases h1 with(h1|h1)|h1
     ·exact .inl h1
     ·rw[Ab8]at h1;exact .inr ⟨e,p9 ..,hb,.inl (by simpa using h1)⟩
     ·exact .inr ⟨e,p9 ..,hb,.inr h1⟩
    ·exact .inl h1
   ·exact .inr ⟨e',nU _ h1,h2⟩
 rcases key _ _ h with h|h
 ·simp at h
 ·exact h
section
variable {P:Program}{nt:Nat}{pre:List (Option Tmp)}{K:FR->AH->Prop}
theorem zNR{q:DE×Oper}(wq:WF pre q.1 q.2){B:List (DE×Oper)}:∀{A:List (DE×Oper)}{fr:FR}{H:AH}(_:∀p,p∈A->WF pre p.1 p.2/\Fv p.1 p.2 q.1 q.2=Z) (_:ir P nt pre (A++q::B) K fr H),ir P nt pre (q::(A++B)) K fr H:=by
 intro A;induction A with
 |nil=>intro fr H _ h;exact h
 |cons p A ih=>
  intro fr H hp h;have h1:uN P nt pre p.1 p.2 (ir P nt pre (q::(A++B)) K) fr H:=zte (λfr H hh=>ih (λp R8=>hp p (nU _ R8)) hh) h;have h2:=hp p (p9 ..);exact swap h2.1 wq h2.2 h1
theorem zzf{bs:List Nat}{xs:List (Nat×Nat)}{j:Nat}{o:Oper}{x:Nat}(h:(Nu bs xs j o).testBit x=Z):(∃e,e∈o.after.toList/\Region.binds .any e=Z/\(e.on=x\/(bs.getD e.on 0).testBit x=Z))\/∃p,p∈xs/\p.2=j/\(p.1=x\/(bs.getD p.1 0).testBit x=Z):=by
 have key:∀(l:List (Nat×Nat)) (s:Nat),(l.foldl (λs p=>if p.2=j then s|||2^p.1|||bs.getD p.1 0 else s) s).testBit x=Z->s.testBit x=Z\/∃p,p∈l/\p.2=j/\(p.1=x\/(bs.getD p.1 0).testBit x=Z):=by
  intro l;induction l with
  |nil=>intro s h;exact .inl h
  |cons e l ih=>
   intro s h;simp only[Or]at h;rcases ih _ h with h1|⟨e',h1,h2⟩
   ·split at h1
    ·rename_i hb;rw[Ue,Ue]at h1;simp only[tY]at h1;rcases h1 with(h1|h1)|h1
     ·exact .inl h1
     ·rw[Ab8]at h1;exact .inr ⟨e,p9 ..,hb,.inl (by simpa using h1)⟩
     ·exact .inr ⟨e,p9 ..,hb,.inr h1⟩
    ·exact .inl h1
   ·exact .inr ⟨e',nU _ h1,h2⟩
 rcases key _ _ h with h|h
 ·exact .inl (zBd h)
 ·exact .inr h
theorem zyA{ops:List Oper}{bs:List Nat}{x:DE}{B:List DE}:∀{A:List DE},BW ops bs (A++x::B)=Z->
 (∀y,y∈A->x.i≠y.i/\((bs.getD x.i 0).testBit y.i=Z\/Fv y (ops.getD y.i default) x (ops.getD x.i default)=Z))/\(∀y,y∈B->y.i≠x.i)/\BW ops bs (A++B)=Z:=by
 intro A;induction A with
 |nil=>
  intro h;simp only[mL,BW,bI,bm]at h;refine⟨λ_ hy=>(by cases hy),λy hy=>?_,h.2⟩;have:=(h.1 y hy).1;simpa using this
 |cons a A ih=>
  intro h;simp only[tZ,BW,bI,bm,tY]at h⊢;obtain⟨i1,i2,i3⟩:=ih h.2;refine⟨λy hy=>?_,i2,λy hy=>?_,i3⟩
  ·rcases fK.1 hy with rfl|hy
   ·have:=h.1 x (by simp);exact⟨by simpa using this.1,this.2⟩
   ·exact i1 y hy
  ·refine h.1 y ?_;rcases jY.1 hy with hy|hy
   ·exact sG _ hy
   ·exact yy _ (nU _ hy)
end
structure Inv (ops:List Oper) (bs:List Nat) (da:Array Bool) (L:List DE):Prop where
 sz:da.size=ops.length
 AaM:BW ops bs L=Z
 wf:∀x,x∈L->x.i<ops.length/\WF (ops.map (·.dst)) x (ops.getD x.i default)
 Z1:∀i,i<ops.length->da.getD i Z=Z\/∃x,x∈L/\x.i=i
 un:∀x,x∈L->da.getD x.i Z=aa
 cl:∀j,j<ops.length->da.getD j Z=Z->∀x,(bs.getD j 0).testBit x=Z->da.getD x aa=Z
theorem MQ(a:Array Bool)(d t:Nat)(u:Bool)(hd:d<a.size):(a.setIfInBounds d Z).getD t u=if t=d then Z else a.getD t u:=by
 simp only[v7,Aaj];by_cases h:d=t
 ·subst h;simp[hd]
 ·rw[az h,az (λe=>h e.symm)]
section
variable {c:qU}{P:Program}{K:FR->AH->Prop}{Q:Exit->Act->World->Prop}{ops:Array Oper}{bs:List Nat}
def IM(ops:Array Oper):Nat->Array Bool->List Nat->Prop
 |0,_,s=>s=[]
 |n+1,da,s=>(s=[]/\Region.ready .any ops da=[])\/∃i s',s=i::s'/\i∈Region.ready .any ops da/\IM ops n (da.setIfInBounds i Z) s'
theorem zDt:∀(ip t:Nat) (da:Array Bool),IM ops ip da (Region.linearise.go .any ops ip t da []):=by
 intro ip;induction ip with
 |zero=>intro t da;rfl
 |succ ip ih=>
  intro t da;simp only[Region.linearise.go]
  change IM ops (ip+1) da (match(Region.ready .any ops da)[t%(Region.ready .any ops da).length]? with
   |some i=>Region.linearise.go .any ops ip (t/(Region.ready .any ops da).length) (da.setIfInBounds i Z) [i]
   |none=>[].reverse)
  cases hi:(Region.ready .any ops da)[t%(Region.ready .any ops da).length]? with
  |none=>
   refine .inl ⟨rfl,?_⟩;cases hr:Region.ready .any ops da with
   |nil=>rfl
   |cons x xs=>
    rw[hr]at hi;have hlt:t%(x::xs).length<(x::xs).length:=mM _ (by simp);simp at hi;simp at hlt;omega
  |some i=>
   simp only[];rw[linearise_go_acc,List.reverse_singleton,Aar];exact .inr ⟨i,_,rfl,eo hi,ih _ _⟩
def bef(a b:Nat):List Nat->Bool
 |[]=>Z
 |i::s=>if i=a then Z else if i=b then aa else bef a b s
theorem zCz{a b:Nat}(h:a≠b):∀s,bef a b s=Z\/bef b a s=Z:=by
 intro s;induction s with
 |nil=>exact .inl rfl
 |cons i s ih=>
  simp only[bef];by_cases h1:i=a
  ·exact .inl (aB h1)
  ·by_cases h2:i=b
   ·exact .inr (aB h2)
   ·rw[az h1,az h2,az h2,az h1];exact ih
theorem zuy{xs:List (Nat×Nat)}(ib:∀p,p∈xs->p.1<ops.toList.length/\p.1≠p.2)(mY:∀j,j<ops.toList.length->bs.getD j 0=Nu bs xs j (ops.toList.getD j default))(hlt:∀j,j<ops.toList.length->∀e,e∈(ops.toList.getD j default).after.toList->Region.binds .any e=Z->e.on<j)
(hn:∀m' ai H' a' w',K ai H'->aX c m' ai H' a' w'->Q .normal a' w'):∀(ip:Nat) {s:List Nat}{da:Array Bool}{L:List DE}{m:Mu}{fr:FR}{H:AH}{a:Act}{w:World},
 L.length=ip->IM ops ip da s->(∀p,p∈xs->da.getD p.1 Z=Z\/bef p.1 p.2 s=Z)->Inv ops.toList bs da L->ir P c.nt (ops.toList.map (·.dst)) (L.map λx=>(x,ops.toList.getD x.i default)) K fr H->aX c m fr H a w->wpOps P ops Q s a w:=by
 intro ip
 have j9:∀{da:Array Bool}{i:Nat},i∈Region.ready .any ops da->i<ops.toList.length/\da.getD i Z=aa/\∀e,e∈(ops.toList.getD i default).after.toList->Region.binds .any e=Z->da.getD e.on aa=Z:=by
  intro da i hi;simp only[Region.ready,List.mem_filter,kp,bI,qc]at hi;obtain⟨h1,h2,h3⟩:=hi;refine⟨by simpa using h1,h2,λe he hb=>?_⟩;have h4:ops[i]? =J ops[i]:=C9 h1;rw[h4]at h3;simp only[l9,v8]at h3;have h5:ops.toList.getD i default=ops[i]:=by simp[List.getD,h1]
  rw[h5]at he;rw[Array.all_eq_true']at h3;have:=h3 e (by simpa using he);simpa[hb]using this
 have AbQ:∀{da:Array Bool}{i:Nat},i<ops.toList.length->da.getD i Z=aa->(∀e,e∈(ops.toList.getD i default).after.toList->Region.binds .any e=Z->da.getD e.on aa=Z)->i∈Region.ready .any ops da:=by
  intro da i h1 h2 h3;have jN:i<ops.size:=by simpa using h1
  simp only[Region.ready,List.mem_filter,kp,bI,qc];refine⟨jN,h2,?_⟩;have h4:ops[i]? =J ops[i]:=C9 jN;have h5:ops.toList.getD i default=ops[i]:=by simp[List.getD,jN]
  rw[h4];simp only[l9,v8];rw[Array.all_eq_true'];intro e he;rw[h5]at h3;cases hb:Region.binds .any e with
  |false=>rfl
  |true=>simp[h3 e (by simpa using he) hb]
 induction ip with
 |zero=>
  intro s da L m fr H a w hl hs hx hI hd r;have:L=[]:=mK hl;subst this;cases hs;exact hn m fr H a w hd r
 |succ ip ih=>
  intro s da L m fr H a w hl hs LS hI hd r;rcases hs with⟨_,Rk⟩|⟨i,s,rfl,hi,mB⟩
  ·exfalso
   have pY:∀i,i<ops.toList.length->da.getD i Z=Z:=by
    intro i;induction i using Nat.strongRecOn with
    |ind i ihi=>
     intro hi;by_cases hc:da.getD i Z=Z
     ·exact hc
     ·exfalso
      have:i∈Region.ready .any ops da:=by
       refine AbQ hi (by simpa using hc) λe he hb=>?_
       have h1:=hlt i hi e he hb;have h2:=ihi e.on h1 (by omega);have h3:e.on<da.size:=by rw[hI.sz];omega
       simp only[v7,C9 h3,v8]at h2⊢;exact h2
      rw[Rk]at this;cases this
   cases L with
   |nil=>cases hl
   |cons x L=>
    have h1:=hI.un x (p9 ..);rw[pY x.i (hI.wf x (p9 ..)).1]at h1;cases h1
  ·obtain⟨h1,h2,h3⟩:=j9 hi
   obtain⟨x,hx,Bw⟩:∃x,x∈L/\x.i=i:=by
    rcases hI.Z1 i h1 with h|h
    ·rw[h2]at h;cases h
    ·exact h
   obtain⟨A,B,rfl⟩:=List.append_of_mem hx;subst Bw;obtain⟨p1,p2,p3⟩:=zyA hI.AaM
   have Vg:∀y,(bs.getD x.i 0).testBit y=Z->da.getD y aa=Z:=by
    intro y hy;rw[mY _ h1]at hy;rcases zzf hy with⟨e,he,hb,h|h⟩|⟨p,hp,uo,h⟩
    ·rw[<-h];exact h3 e he hb
    ·have Acp:=hlt _ h1 e he hb;refine hI.cl e.on (by omega) ?_ y h;have h4:=h3 e he hb;have h5:e.on<da.size:=by rw[hI.sz];omega
     simp only[v7,C9 h5,v8]at h4⊢;exact h4
    ·have zO:da.getD p.1 Z=Z:=by
      rcases LS p hp with h4|h4
      ·exact h4
      ·simp only[bef]at h4;rw[az λe=>(ib p hp).2 (e.symm.trans uo.symm),aB uo.symm]at h4;cases h4
     rcases h with h|h
     ·rw[<-h];have h5:p.1<da.size:=by rw[hI.sz];exact(ib p hp).1
      simp only[v7,C9 h5,v8]at zO⊢;exact zO
     ·exact hI.cl p.1 (ib p hp).1 zO y h
   have hA:∀y,y∈A->Fv y (ops.toList.getD y.i default) x (ops.toList.getD x.i default)=Z:=by
    intro y hy;have h5:=hI.un y (sG _ hy);rcases(p1 y hy).2 with h|h
    ·exfalso;have h4:=Vg _ h;have h6:y.i<da.size:=by rw[hI.sz];exact(hI.wf y (sG _ hy)).1
     simp only[v7,C9 h6,v8]at h4 h5;rw[h5]at h4;cases h4
    ·exact h
   have gW:ir P c.nt (ops.toList.map (·.dst)) ((x,ops.toList.getD x.i default)::((A++B).map λx=>(x,ops.toList.getD x.i default))) K fr H:=by
    rw[l8,jD]at hd;rw[l8];refine zNR (hI.wf x hx).2 ?_ hd;intro p hp;obtain⟨y,hy,rfl⟩:=jE.1 hp;exact⟨(hI.wf y (sG _ hy)).2,hA y hy⟩
   have AaP:∀p,p∈xs->(da.setIfInBounds x.i Z).getD p.1 Z=Z\/bef p.1 p.2 s=Z:=by
    intro p hp;have ib:x.i<da.size:=by rw[hI.sz];exact h1
    rw[MQ _ _ _ _ ib];by_cases uo:p.1=x.i
    ·exact .inl (aB uo)
    ·rw[az uo];rcases LS p hp with h4|h4
     ·exact .inl h4
     ·simp only[bef]at h4;rw[az λe=>uo e.symm]at h4;split at h4
      ·cases h4
      ·exact .inr h4
   have hI':Inv ops.toList bs (da.setIfInBounds x.i Z) (A++B):=by
    have ib:x.i<da.size:=by rw[hI.sz];exact h1
    have Bg:∀y,y∈A++B->y∈A++x::B/\y.i≠x.i:=by
     intro y hy;rcases jY.1 hy with hy|hy
     ·exact⟨sG _ hy,λe=>(p1 y hy).1 e.symm⟩
     ·exact⟨yy _ (nU _ hy),p2 y hy⟩
    refine⟨by simpa using hI.sz,p3,λy hy=>hI.wf y (Bg y hy).1,λi hi'=>?_,λy hy=>?_,λj hj GI y hy=>?_⟩
    ·rw[MQ _ _ _ _ ib];by_cases iS:i=x.i
     ·left;rw[aB iS]
     ·rw[az iS];rcases hI.Z1 i hi' with h|⟨y,hy,D7⟩
      ·exact .inl h
      ·right;rcases jY.1 hy with hy|hy
       ·exact⟨y,sG _ hy,D7⟩
       ·rcases fK.1 hy with rfl|hy
        ·exact absurd D7.symm iS
        ·exact⟨y,yy _ hy,D7⟩
    ·rw[MQ _ _ _ _ ib,az (Bg y hy).2];exact hI.un y (Bg y hy).1
    ·rw[MQ _ _ _ _ ib]at GI⊢;by_cases Wc:y=x.i
     ·rw[aB Wc]
     ·rw[az Wc];by_cases K6:j=x.i
      ·subst K6;exact Vg y hy
      ·rw[az K6]at GI;exact hI.cl j hj GI y hy
   have jN:x.i<ops.size:=by simpa using h1
   have J1:ops[x.i]? =J (ops.toList.getD x.i default):=by
    rw[C9 jN];simp[List.getD,jN]
   rw[wpOps_cons];unfold wpOp;rw[J1];simp only
   have hs:=zyI (Q:=Q) (next:=wpOps P ops Q s) gW.2 r λm' ai H' a' w' hk r'=>
    ih (by simp at hl⊢;omega) mB AaP hI' hk.2 r'
   split
   ·rename_i hw;rw[aB hw]at hs;exact .inl hs
   ·rename_i hw;rw[az hw]at hs;exact hs
theorem zul{id:Nat}{m:Mu}{fr:FR}{H:AH}{a:Act}{w:World}(h:L2 P c.nt ops K fr H)(r:aX c m fr H a w)
(hn:∀m' ai H' a' w',K ai H'->aX c m' ai H' a' w'->Q .normal a' w'):(Code.region id ops Z).wp P Q a w:=by
 obtain⟨BT,n,hX⟩:=h;refine wp_region_draw λt=>?_
 have key:∀(s:List Nat),IM ops ops.size (Array.replicate ops.size aa) s->∀n xs,CQ (λD=>ir P c.nt (ops.toList.map (·.dst)) (D.map λx=>(x,ops.toList.getD x.i default)) K fr H) ops.toList n xs->(∀p,p∈xs->bef p.1 p.2 s=Z)->wpOps P ops Q s a {w with drawn:=w.drawn+1}:=by
  intro s hs n;induction n with
  |zero=>
   rintro xs ⟨D,hD,hd⟩ hx;simp only[G8,bI,bm,kp]at hD;obtain⟨⟨⟨⟨hlen,ib⟩,pY⟩,C4⟩,AaT⟩:=hD;refine zuy (xs:=xs) (bs:=if xs.isEmpty then H6 ops.toList []else Th ops.toList xs 6 (H6 ops.toList [])) (λp hp=>⟨Aas (ib p hp).1,by simpa using(ib p hp).2⟩) (λj hj=>?_) (λj hj e he hb=>?_) hn ops.size (L:=D) (by simpa using hlen) hs (λp hp=>.inr (hx p hp)) ?_ hd r.drew
   ·simpa using(pY j hj).1.1
   ·exact by have:=(pY j hj).1.2 e he;rw[hb]at this;simpa using this
   ·refine⟨by simp,AaT,λx hx=>⟨Aas (C4 x hx).1,zHo (C4 x hx).2⟩,λi hi=>?_,λx hx=>?_,λj hj GI=>?_⟩
    ·right;have:=(pY i hi).2;simpa[jE]using this
    ·have h1:x.i<ops.toList.length:=Aas (C4 x hx).1;have jN:x.i<ops.size:=by simpa using h1
     simp[v7,jN]
    ·have jN:j<ops.size:=by simpa using hj
     simp[v7,jN]at GI
  |succ n ih=>
   rintro xs ⟨a,b,nP,h1,h2⟩ hx;rcases zCz nP s with h|h
   ·exact ih _ h1 λp hp=>by
     rcases fK.1 hp with rfl|hp
     ·exact h
     ·exact hx p hp
   ·exact ih _ h2 λp hp=>by
     rcases fK.1 hp with rfl|hp
     ·exact h
     ·exact hx p hp
 unfold Region.schedule;rw[BT,Bool.true_or,aB rfl];exact key _ (zDt _ _ _) n [] hX λp hp=>by cases hp
end
def fe(P:Program)(nt:Nat):Code->(Exit->FR->AH->Prop)->FR->AH->Prop
 | .skip,Q=>Q .normal
 | .region _ ops yG,Q=>if yG=Z then L2 P nt ops (Q .normal)else mW P nt (ops.toList.map (·.dst)) ops.toList (Q .normal)
 | .seq x y,Q=>fe P nt x (Dw (fe P nt y Q) Q)
 | .cond c t e,Q=>λfr H=>match be fr c with
  |some (.bool b)=>if b=Z then fe P nt t Q fr H else fe P nt e Q fr H
  |_=>False
 | .block id b,Q=>fe P nt b (Ju id Q)
 | .loop b,Q=>λfr H=>∃n,YR (fe P nt b) Q n fr H
 | .exit id,Q=>Q (.exit id)
 | .ret,Q=>Q .ret
 |_,_=>λ_ _=>False
def sy(P:Program)(fr:FR):ResultVar->Option Value
 | .tmp t=>match fr t with
  | .v x=>J x
  |_=>ae
 | .cell t ty=>match fr t with
  | .loc cells=>mU P ty (J cells)
  |_=>ae
def pK(P:Program)(fr:FR):List ResultVar->Option (List Value)
 |[]=>J []
 |x::xs=>match sy P fr x,pK P fr xs with
  |some v,J vs=>J (v::vs)
  |_,_=>ae
def xf:List Value->Value
 |[v]=>v
 |vs=>.tuple vs.toArray
inductive It where
 |code (c:Code)
 |ops (pre:List (Option Tmp)) (l:List Oper)
 |ir (pre:List (Option Tmp)) (l:List (DE×Oper))
 |chk (p:AH->Prop)
 |bq (id:Nat)
def uZ(P:Program)(nt:Nat):List It->(Exit->FR->AH->Prop)->Exit->FR->AH->Prop
 |[],Q,e=>Q e
 |it::k,Q,e=>match e with
  | .normal=>match it with
   | .code c=>fe P nt c (uZ P nt k Q)
   | .ops pre l=>mW P nt pre l (uZ P nt k Q .normal)
   | .ir pre l=>ir P nt pre l (uZ P nt k Q .normal)
   | .chk p=>λfr H=>p H/\uZ P nt k Q .normal fr H
   | .bq _=>uZ P nt k Q .normal
  | .exit id=>match it with
   | .bq i=>if id=i then uZ P nt k Q .normal else uZ P nt k Q (.exit id)
   |_=>uZ P nt k Q (.exit id)
  |e=>uZ P nt k Q e
def aw(P:Program)(nt:Nat)(k:List It)(Q:Exit->FR->AH->Prop)(fr:FR)(H:AH):Prop:=uZ P nt k Q .normal fr H
def D9(P:Program)(rs:Array ResultVar)(R:Value->AH->Prop):Exit->FR->AH->Prop
 | .normal,fr,H| .ret,fr,H=>match pK P fr rs.toList with
  |some vs=>R (xf vs) H
  |none=>False
 |_,_,_=>False
end Go.Am
