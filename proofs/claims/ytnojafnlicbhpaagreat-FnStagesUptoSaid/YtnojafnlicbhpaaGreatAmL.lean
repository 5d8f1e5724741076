import Derived.Test.YtnojafnlicbhpaaGreatAmK
import Derived.Orders
open Bool renaming false→aa,true→Z
open Option renaming none→ae,some→J
namespace Go.Am
def fK:=@List.mem_cons
def gB:=@List.mem_singleton
def jE:=@List.mem_map
def jY:=@List.mem_append
def kp:=@List.mem_range
def l9:=@Option.map_some
def mN:=@Nat.mod_lt
def nV:=@List.mem_cons_of_mem
def qc:=@List.mem_cons_self
def qd:=@Bool.not_eq_true'
def sH:=@List.mem_append_left
def tZ:=@Bool.or_eq_true
def t5:=@List.cons_append
def wd:=@Bool.not_true
def yz:=@List.mem_append_right
def Dc:=@Iff.rfl
def Dd:=@List.flatMap_cons
def Uk:=@Bool.and_self
def Ul:=@Nat.testBit_or
def a0r:=@List.mem_flatMap
def a0s:=@Bool.false_or
def a0t:=@Bool.false_and
def a0u:=@List.singleton_append
def a0v:=@Nat.le_of_ble_eq_true
def a2d:=@Nat.testBit_two_pow
set_option linter.unusedVariables false
set_option linter.unusedSimpArgs false
def ft(H H':AH):Prop:=H.n<=H'.n/\∀id k,H.b id=J k->H'.b id=J k
theorem ft.refl(H:AH):ft H H:=⟨cy _,λ_ _ h=>h⟩
theorem ft.trans{a b c:AH}(h:ft a b)(h':ft b c):ft a c:=⟨gj h.1 h'.1,λid k hk=>h'.2 id k (h.2 id k hk)⟩
section
variable {P:Program}
variable{H:AH}{K K2:FR->AH->Prop}{fr:FR}{nt:Nat}{o:Oper}{pre:List (Option Tmp)}
theorem zU(hk:∀fr H,K fr H->K2 fr H){d:Option Tmp}{x:FV}(h:bB nt K d x fr H):bB nt K2 d x fr H:=by
 unfold bB at h⊢;split at h
 ·split at h
  ·rename_i hd;rw[aB hd];exact hk _ _ h
  ·cases h
 ·exact hk _ _ h
theorem Qs(hk:∀fr H,K fr H->K2 fr H)(h:dA P nt o K fr H):dA P nt o K2 fr H:=by
 unfold dA at h⊢;split at h
 ·split at h
  ·split at h
   ·exact zU hk h
   ·cases h
  ·cases h
 ·cases h
theorem XL(hk:∀fr H,K fr H->K2 fr H){t:TypeId}{x i:Operand}{d:Option Tmp}:OY P nt t x i d K fr H->OY P nt t x i d K2 fr H:=
 λ⟨u,l,es,cs,k,j,e,g,r,a1,a2,a3,a4,a5,a6,a7⟩=>⟨u,l,es,cs,k,j,e,g,r,a1,a2,a3,a4,a5,a6,zU hk a7⟩
theorem BW(hk:∀fr H,K fr H->K2 fr H)(h:aM P nt o K fr H):aM P nt o K2 fr H:=by
 unfold aM at h⊢;split at h
 all_goals
  repeat' first
   |exact zU hk h
   |exact hk _ _ h
   |exact Qs hk h
   |exact h.imp (Qs hk) λ⟨h1,l,ns,h2,h3⟩=>⟨h1,l,ns,h2,zU hk h3⟩
   |exact h.imp (zU hk) (XL hk)
   |exact h.imp (λx=>x) (XL hk)
   |exact h.mono (λ_ _ hh=>zU hk hh)
   |exact h.elim
   |rw[aB (by assumption)]
   |rw[az (by assumption)]
   |split at h
theorem T2(hk:∀fr H,K fr H->K2 fr H)(h:na P nt pre o K fr H):na P nt pre o K2 fr H:=by
 unfold na at h⊢;split at h
 ·exact BW hk h
 ·split at h
  ·split at h
   ·rename_i e;rw[aB e];exact BW hk h
   ·rename_i e;rw[az e];exact zU hk h
  ·cases h
theorem zs4(hk:∀fr H,K fr H->K2 fr H)(h:fo P nt o K fr H):fo P nt o K2 fr H:=by
 unfold fo at h⊢;split at h
 case h_3=>
  refine⟨h.1,?_⟩;have h:=h.2;split at h
  ·exact λb=>hk _ _ (h b)
  ·exact hk _ _ h
  ·exact h.elim
 case h_4=>
  split at h
  ·exact⟨h.1,h.2.1,h.2.2.1,hk _ _ h.2.2.2⟩
  ·exact h.elim
 case h_5=>
  repeat' first
   |exact h.imp (λh=>⟨h.1,hk _ _ h.2⟩) λ⟨h1,sv,v,H2,h2,h3,h4⟩=>⟨h1,sv,v,H2,h2,h3,hk _ _ h4⟩
   |exact h.elim
   |split at h
 case h_6=>
  repeat' first
   |(obtain⟨h1,cs,h2,h3⟩:=h;exact⟨h1,cs,h2,hk _ _ h3⟩)
   |exact h.elim
   |split at h
 case h_7=>
  obtain⟨ts,ai,H',h1,h2⟩:=h;exact⟨ts,ai,H',h1,Qs hk h2⟩
 case h_8=>
  obtain⟨s,cells,h1,h2⟩:=h;exact⟨s,cells,h1,hk _ _ h2⟩
 case h_9=>
  refine⟨h.1,?_⟩;have h:=h.2;split at h
  ·obtain⟨ns,h1,h2⟩:=h;exact⟨ns,h1,hk _ _ h2⟩
  ·exact h.elim
 all_goals
  repeat' first
   |exact⟨h.1,h.2.1,hk _ _ h.2.2⟩
   |exact h.elim
   |split at h
theorem zxR(hk:∀fr H,K fr H->K2 fr H)(h:zk P nt pre o K fr H):zk P nt pre o K2 fr H:=by
 unfold zk at h⊢;split at h
 ·exact h.imp (BW hk) (zs4 hk)
 ·split at h
  ·split at h
   ·rename_i e;rw[aB e];exact h.imp (BW hk) (zs4 hk)
   ·rename_i e;rw[az e];exact zU hk h
  ·cases h
theorem zyc :∀{l:List Oper}{K K2:FR->AH->Prop}(_:∀fr H,K fr H->K2 fr H) {fr:FR}{H:AH},nk P nt pre l K fr H->nk P nt pre l K2 fr H:=by
 intro l;induction l with
 |nil=>intro K K2 hk fr H h;exact hk _ _ h
 |cons o l ih=>intro K K2 hk fr H h;exact zxR (λ_ _ h'=>ih hk h') h
end
def dV:Operand->List Nat
 | .tmp t=>[t]
 |_=>[]
def Co(o:Op):List Nat:=o.operands.toList.flatMap dV
def TV(pre:List (Option Tmp))(o:Oper):List Nat:=
 match o.guard with
 |some (j,_)=>match pre[j]? with
  |some (J d)=>[d]
  |_=>[]
 |none=>[]
def Xz(pre:List (Option Tmp))(o:Oper):List Nat:=Co o.op++TV pre o
def K6:Op->Bool
 | .call ⟨.value _,_,_⟩| .call ⟨.builtin .copy,_,_⟩=>Z
 |_=>aa
def Rw:Op->Bool
 | .makeSlice .. =>Z
 |_=>aa
def rm:Op->Bool
 | .call ⟨.builtin .append,_,_⟩=>Z
 |_=>aa
def sn:Op->Bool
 | .store .. =>Z
 |_=>aa
def Cc:Op->Bool
 | .load .. =>Z
 |_=>aa
def Bp:Op->Option Nat
 | .load _ (.tmp t)=>J t
 | .store _ (.tmp t) _=>J t
 |_=>ae
structure DE where
 i:Nat
 sl:List Nat
 rg:List Nat
 mr:Option Nat
 ls:Bool
 ext:Bool
 wr:Bool
def DE.ex(e:DE):Bool:=e.ext&& !e.wr
def ZK:FV->Bool
 | .loc _| .lp .. | .skip=>Z
 |_=>aa
def s8(rg:List Nat)(ls:Bool)(t:Nat):FV->Bool
 | .v (.tuple a)=> !a.toList.isEmpty
 | .v _=>Z
 | .skip=>Z
 | .loc _=>rg.contains t
 | .lp s _=>rg.contains s
 | .ls .. =>ls
def Fe(fr:FR):Option Nat->Bool
 |some t=>ZK (fr t)
 |none=>Z
def xW(rg:List Nat)(ls:Bool)(fr:FR):List Nat->Bool
 |[]=>Z
 |t::r=>s8 rg ls t (fr t)&&xW rg ls fr r
def jT(e:DE)(fr:FR):Bool:=xW e.rg e.ls fr e.sl&&Fe fr e.mr
def PS(pre:List (Option Tmp))(e:DE)(o:Oper):Bool:=
 (Xz pre o).all (e.sl.contains ·)&&(!e.ls||e.ext||rm o.op)&&(!(K6 o.op||Rw o.op)||e.ext)&&
 (!(Cc o.op||sn o.op)||e.rg.isEmpty||(e.mr.isSome&&e.mr==Bp o.op))&&(e.mr.toList.all (e.sl.contains ·))
def TP(e:DE)(o:Oper):Bool:= !e.ext&& !rm o.op&& !sn o.op
def IM(xs ys:List Nat):Bool:=xs.all λx=> !ys.contains x
def F1(x:DE)(p:Oper)(y:DE)(q:Oper):Bool:=
 TP x p&&IM p.dst.toList (y.sl++y.rg++q.dst.toList)&&IM q.dst.toList (x.sl++x.rg)&&
 (!(Cc p.op&&x.rg.isEmpty)||(!rm q.op&&(!sn q.op|| !y.rg.isEmpty||y.ext)))&&
 (!sn q.op||IM y.rg (x.sl++x.rg))&&(!(Cc p.op&&x.rg.isEmpty)|| !y.wr)
def um(P:Program)(nt:Nat)(pre:List (Option Tmp))(e:DE)(o:Oper)(K:FR->AH->Prop)(fr:FR)(H:AH):Prop:=
 jT e fr=Z/\na P nt pre o (λai H'=>(e.ex=Z->ft H H')/\K ai H') fr H
def iz(P:Program)(nt:Nat)(pre:List (Option Tmp)):List (DE×Oper)->(FR->AH->Prop)->FR->AH->Prop
 |[],K,fr,H=>K fr H
 |(e,o)::r,K,fr,H=>um P nt pre e o (iz P nt pre r K) fr H
inductive cb where
 |no
 |put (d:Nat) (x:FV)
 |loc (d:Nat) (cells:List Value)
def cb.bA:cb->FR->FR
 | .no,fr=>fr
 | .put d x,fr=>fr.put d x
 | .loc d cs,fr=>fr.eS d cs
def cb.dst:cb->List Nat
 | .no=>[]
 | .put d _| .loc d _=>[d]
def cb.of:Option Tmp->FV->cb
 |some d,x=>.put d x
 |none,_=>.no
structure pQ (e:DE) (f g:FR):Prop where
 s:∀t,t∈e.sl->f t=g t
 r:∀s,s∈e.rg->∀cs,f s=.loc cs↔g s=.loc cs
section
variable {P:Program}{nt:Nat}{pre:List (Option Tmp)}{e:DE}{f g fr:FR}{H:AH}{U:cb}
variable{ls:Bool}{rg:List Nat}{x:Operand}
theorem FA :∀{l:List Nat},xW rg ls fr l=Z->∀t,t∈l->s8 rg ls t (fr t)=Z:=by
 intro l;induction l with
 |nil=>intro _ t h;cases h
 |cons a l ih=>
  intro h t ht;simp only[xW,bI]at h;rcases fK.1 ht with rfl|ht
  ·exact h.1
  ·exact ih h.2 t ht
theorem nq(h:pQ e f g)(hx:∀t,t∈dV x->t∈e.sl):be f x=be g x:=by
 cases x with
 |tmp t=>simp only[be,h.s t (hx t (by simp[dV]))]
 |_=>rfl
theorem NL{t s o:Nat}(h:s8 rg ls t (.lp s o)=Z):s∈rg:=by simpa[s8]using h
theorem WK{t:Nat}{cs:List Value}(h:s8 rg ls t (.loc cs)=Z):t∈rg:=by simpa[s8]using h
theorem qS(h:pQ e f g)(hg:jT e g=Z)(hx:∀t,t∈dV x->t∈e.sl):bM f x=bM g x:=by
 cases x with
 |tmp t=>
  have ht:=hx t (by simp[dV]);simp only[bM,h.s t ht];cases AG:g t with
  |lp s o=>
   have hs:s∈e.rg:=by
    simp only[jT,bI]at hg;have:=FA hg.1 t ht;rw[AG]at this;exact NL this
   simp only;cases B4:g s with
   |loc cs=>rw[(h.r s hs cs).2 B4]
   |_=>
    cases jy:f s with
    |loc cs=>rw[(h.r s hs cs).1 jy]at B4;cases B4
    |_=>rfl
  |_=>rfl
 |const c=>simp only[bM];rw[nq h hx]
 |func c=>simp only[bM];rw[nq h hx]
 |global c=>simp only[bM];rw[nq h hx]
theorem zW(hg:jT e g=Z)(hx:∀t,t∈dV x->t∈e.sl){s o:Nat}(h:bM g x=J (.lp s o)):s∈e.rg/\∃cs,g s=.loc cs:=by
 simp only[jT,bI]at hg;cases x with
 |tmp t=>
  have hk:=FA hg.1 t (hx t (by simp[dV]));simp only[bM]at h;cases AG:g t with
  |lp s' o'=>
   rw[AG]at h hk;simp only at h;cases B4:g s' with
   |loc cs=>rw[B4]at h;cases h;exact⟨NL hk,cs,B4⟩
   |_=>rw[B4]at h;cases h
  |loc cs=>rw[AG]at h hk;cases h;exact⟨WK hk,cs,AG⟩
  |v x=>rw[AG]at h;cases h
  |skip=>rw[AG]at h;cases h
  |ls=>rw[AG]at h;cases h
 |const c=>simp only[bM,be]at h;split at h<;>cases h
 |func c=>simp only[bM,be]at h;cases h
 |global c=>simp only[bM,be]at h;cases h
end
section
variable {P:Program}{nt:Nat}{pre:List (Option Tmp)}{e:DE}{f g fr:FR}{H:AH}{U:cb}
variable{o:Oper}{x:FV}
theorem IJ{dd:Nat}(hd:dd∉U.dst)(hx:∀s o,x=.lp s o->s∉U.dst):(U.bA fr).put dd x=U.bA (fr.put dd x):=by
 cases U with
 |no=>rfl
 |put d y=>
  funext t;simp only[cb.dst,gB]at hd;simp only[cb.bA,FR.put];by_cases h1:t=dd
  ·subst h1;simp[hd]
  ·simp[h1]
 |loc d cs=>
  funext t;simp only[cb.dst,gB]at hd hx;simp only[cb.bA,FR.put,FR.eS];by_cases h1:t=dd
  ·subst h1;simp only[eP,az hd];cases x with
   |lp s o=>simp only[kv];rw[az (hx s o rfl)]
   |_=>rfl
  ·simp[h1]
theorem zwL(a b:Nat)(v:FV):kv a (kv b v)=kv b (kv a v):=by
 cases v with
 |lp s o=>
  have k:∀c,kv c (.lp s o)=if s=c then jv else .lp s o:=λ_=>rfl
  by_cases h1:s=a<;>by_cases h2:s=b
  ·rw[k b,aB h2,k a,aB h1];rfl
  ·rw[k b,az h2,k a,aB h1];rfl
  ·rw[k b,aB h2,k a,az h1,k b,aB h2];rfl
  ·rw[k b,az h2,k a,az h1,k b,az h2]
 |_=>rfl
theorem zql{dd:Nat}{cs:List Value}(hd:dd∉U.dst)(hU:∀d' s o,U=.put d' (.lp s o)->s≠dd):(U.bA fr).eS dd cs=U.bA (fr.eS dd cs):=by
 cases U with
 |no=>rfl
 |put d y=>
  funext t;simp only[cb.dst,gB]at hd;simp only[cb.bA,FR.put,FR.eS];by_cases h1:t=dd
  ·subst h1;simp[hd]
  ·by_cases h2:t=d
   ·subst h2;simp only[h1,eP,l7];cases y with
    |lp s o=>simp only[kv];rw[az (hU _ s o rfl)]
    |_=>rfl
   ·simp[h1,h2]
 |loc d c2=>
  funext t;simp only[cb.dst,gB]at hd;simp only[cb.bA,FR.eS];by_cases h1:t=dd
  ·subst h1;simp[hd,kv]
  ·by_cases h2:t=d
   ·subst h2;simp[h1,kv]
   ·simp only[h1,h2,l7];exact zwL ..
theorem Rd{s:Nat}(h:s∉U.dst)(cs:List Value):U.bA fr s=.loc cs↔fr s=.loc cs:=by
 cases U with
 |no=>exact Dc
 |put d y=>
  simp only[cb.dst,gB]at h;simp[cb.bA,FR.put,h]
 |loc d c2=>
  simp only[cb.dst,gB]at h;simp only[cb.bA,FR.eS,az h];cases fr s with
  |lp s' o'=>simp only[kv];split<;>simp[jv]
  |_=>simp[kv]
theorem zBp(hs:∀t,t∈e.sl->t∉U.dst)(hr:∀s,s∈e.rg->s∉U.dst)(hc:jT e (U.bA fr)=Z):pQ e (U.bA fr) fr:=by
 refine⟨λt ht=>?_,λs hs cs=>Rd (hr s hs) cs⟩;simp only[jT,bI]at hc;have hk:=FA hc.1 t ht;have hd:=hs t ht;cases U with
 |no=>rfl
 |put d y=>
  simp only[cb.dst,gB]at hd;simp[cb.bA,FR.put,hd]
 |loc d c2=>
  simp only[cb.dst,gB]at hd;simp only[cb.bA,FR.eS,az hd]at hk⊢;cases hf:fr t with
  |lp s o=>
   rw[hf]at hk;simp only[kv]at hk⊢;split
   ·rename_i h;rw[aB h]at hk;simp[jv,s8]at hk
   ·rfl
  |_=>rfl
theorem XV(h:pQ e f g)(hr:∀t,e.mr=J t->t∈e.sl):jT e f=jT e g:=by
 have h1:∀l:List Nat,(∀t,t∈l->t∈e.sl)->xW e.rg e.ls f l=xW e.rg e.ls g l:=by
  intro l;induction l with
  |nil=>intro _;rfl
  |cons a l ih=>intro hl;simp only[xW];rw[h.s a (hl a (qc ..)),ih λt ht=>hl t (nV _ ht)]
 simp only[jT];rw[h1 _ λt ht=>ht];congr 1;cases hm:e.mr with
 |none=>rfl
 |some t=>simp only[Fe];rw[h.s t (hr t hm)]
structure mh (e:DE) (o:Oper) (fr:FR) (H:AH) (f:FR) (h:AH):Prop where
 s:∀t,t∉o.dst.toList->(sn o.op=Z->t∉e.rg)->(∀l es cs,fr t≠.ls l es cs)->(∀d k,d∈o.dst.toList->fr t≠.lp d k)->f t=fr t
 r:∀s,s∉o.dst.toList->(sn o.op=Z->s∉e.rg)->∀cs,f s=.loc cs↔fr s=.loc cs
 h:e.ext=aa->rm o.op=aa->(sn o.op=Z->e.rg≠[])->h=H
theorem oj{K R:FR->AH->Prop}{d:Option Tmp}(h:bB nt K d x (U.bA fr) H)(hd:∀t,t∈d.toList->t∉U.dst)(hx:∀s o,x=.lp s o->s∉U.dst)
(hP:R ((cb.of d x).bA fr) H):bB nt (λf h=>K (U.bA f) h/\R f h) d x fr H:=by
 cases d with
 |none=>exact⟨h,hP⟩
 |some d=>
  simp only[bB]at h⊢;split at h
  ·rename_i hlt;rw[aB hlt];exact⟨by rw[<-IJ (hd d (by simp)) hx];exact h,hP⟩
  ·cases h
theorem uj :mh e o fr H ((cb.of o.dst x).bA fr) H:=by
 cases hd:o.dst with
 |none=>exact⟨λ_ _ _ _ _=>rfl,λ_ _ _ _=>Dc,λ_ _ _=>rfl⟩
 |some d=>
  refine⟨λt h1 _ _ _=>?_,λs h1 _ cs=>?_,λ_ _ _=>rfl⟩
  ·rw[hd]at h1;simp at h1;simp[cb.of,cb.bA,FR.put,h1]
  ·rw[hd]at h1;simp at h1;simp[cb.of,cb.bA,FR.put,h1]
theorem YF{d:Nat}{cs:List Value}(hd:o.dst=J d):mh e o fr H (fr.eS d cs) H:=by
 refine⟨λt h1 _ _ h4=>?_,λs h1 _ c2=>?_,λ_ _ _=>rfl⟩
 ·rw[hd]at h1;simp at h1;simp only[FR.eS,az h1];cases hf:fr t with
  |lp s k=>
   simp only[kv];rw[az];intro e;subst e;exact h4 _ k (by simp[hd]) hf
  |_=>rfl
 ·rw[hd]at h1;simp at h1;simp only[FR.eS,az h1];cases hf:fr s with
  |lp s k=>simp only[kv];split<;>simp[jv]
  |_=>simp[kv]
theorem zu7{x:Operand}(hx:∀t,t∈dV x->t∉U.dst/\U.bA fr t=fr t):bh (U.bA fr) H x=(bh fr H x).map λr=>(r.1,U.bA r.2.1,r.2.2):=by
 cases x with
 |tmp t=>
  obtain⟨h1,h2⟩:=hx t (by simp[dV]);simp only[bh,h2];cases hf:fr t with
  |v y=>rfl
  |ls l es cs=>simp only[l9];rw[IJ h1 (by intro s o hh;cases hh)]
  |_=>rfl
 |const c=>simp only[bh,be];split<;>rfl
 |func c=>rfl
 |global c=>rfl
theorem q6{x:Operand}{v:Value}{f:FR}{h:AH}(hm:bh fr H x=J (v,f,h)):(∀t,(∀l es cs,fr t≠.ls l es cs)->f t=fr t)/\(∀t,f t=fr t\/((∃l es cs,fr t=.ls l es cs)/\∃y,f t=.v y))/\
 ((∀t,t∈dV x->∀l es cs,fr t≠.ls l es cs)->f=fr/\h=H/\be fr x=J v):=by
 have key:∀y:Operand,bh fr H y=(be fr y).map (λv=>(v,fr,H))->bh fr H y=J (v,f,h)->f=fr/\h=H/\be fr y=J v:=by
  intro y e hm;rw[e]at hm;cases hr:be fr y with
  |none=>rw[hr]at hm;cases hm
  |some w=>rw[hr]at hm;cases hm;exact⟨rfl,rfl,rfl⟩
 cases x with
 |tmp t=>
  simp only[bh]at hm;cases hf:fr t with
  |v y=>
   rw[hf]at hm;cases hm;exact⟨λ_ _=>rfl,λ_=>.inl rfl,λ_=>⟨rfl,rfl,by simp[be,hf]⟩⟩
  |ls l es cs=>
   rw[hf]at hm;cases hm;refine⟨λu hu=>?_,λu=>?_,λhn=>absurd hf (hn t (by simp[dV]) l es cs)⟩
   ·have:u≠t:=by rintro rfl;exact hu l es cs hf
    simp[FR.put,this]
   ·by_cases Mp:u=t
    ·subst Mp;exact .inr ⟨⟨l,es,cs,hf⟩,_,jJ ..⟩
    ·exact .inl (by simp[FR.put,Mp])
  |skip=>rw[hf]at hm;cases hm
  |loc cs=>rw[hf]at hm;cases hm
  |lp s k=>rw[hf]at hm;cases hm
 |const c=>
  obtain⟨rfl,rfl,h3⟩:=key (.const c) rfl hm;exact⟨λ_ _=>rfl,λ_=>.inl rfl,λ_=>⟨rfl,rfl,h3⟩⟩
 |func c=>
  obtain⟨rfl,rfl,h3⟩:=key (.func c) rfl hm;exact⟨λ_ _=>rfl,λ_=>.inl rfl,λ_=>⟨rfl,rfl,h3⟩⟩
 |global c=>
  obtain⟨rfl,rfl,h3⟩:=key (.global c) rfl hm;exact⟨λ_ _=>rfl,λ_=>.inl rfl,λ_=>⟨rfl,rfl,h3⟩⟩
theorem zy0:∀{xs:List Operand}{fr:FR}{H:AH}(_:∀t,t∈xs.flatMap dV->t∉U.dst/\U.bA fr t=fr t),cn (U.bA fr) H xs=(cn fr H xs).map λr=>(r.1,U.bA r.2.1,r.2.2):=by
 intro xs;induction xs with
 |nil=>intro fr H _;rfl
 |cons x xs ih=>
  intro fr H h;have hx:∀t,t∈dV x->t∉U.dst/\U.bA fr t=fr t:=λt ht=>h t (by simp only[Dd,jY];exact .inl ht)
  simp only[cn,zu7 hx];cases hm:bh fr H x with
  |none=>rfl
  |some r=>
   obtain⟨v,f,h'⟩:=r;simp only[l9];have hf:=q6 hm
   have ic:∀t,t∈xs.flatMap dV->t∉U.dst/\U.bA f t=f t:=by
    intro t ht;have hu:=h t (by simp only[Dd,jY];exact .inr ht);refine⟨hu.1,?_⟩;rcases hf.2.1 t with e|⟨_,y,e⟩
    ·
     have h1:=hu.2;cases U with
     |no=>rfl
     |put d z=>simp only[cb.dst,gB]at hu;simp[cb.bA,FR.put,hu.1]
     |loc d z=>
      simp only[cb.dst,gB]at hu;simp only[cb.bA,FR.eS,az hu.1]at h1⊢;rw[e];exact h1
    ·cases U with
     |no=>rfl
     |put d z=>simp only[cb.dst,gB]at hu;simp[cb.bA,FR.put,hu.1]
     |loc d z=>
      simp only[cb.dst,gB]at hu;simp only[cb.bA,FR.eS,az hu.1];rw[e];rfl
   rw[ih ic];cases cn f h' xs<;>rfl
theorem AN:∀{xs:List Operand}{vs:List Value}{fr f:FR}{H h:AH}(_:cn fr H xs=J (vs,f,h)),(∀t,(∀l es cs,fr t≠.ls l es cs)->f t=fr t)/\(∀t,f t=fr t\/((∃l es cs,fr t=.ls l es cs)/\∃y,f t=.v y))/\
 ((∀t,t∈xs.flatMap dV->∀l es cs,fr t≠.ls l es cs)->f=fr/\h=H):=by
 intro xs;induction xs with
 |nil=>intro vs fr f H h hm;cases hm;exact⟨λ_ _=>rfl,λ_=>.inl rfl,λ_=>⟨rfl,rfl⟩⟩
 |cons x xs ih=>
  intro vs fr f H h hm;simp only[cn]at hm;cases h1:bh fr H x with
  |none=>rw[h1]at hm;cases hm
  |some r=>
   obtain⟨v,f1,jO⟩:=r;rw[h1]at hm;simp only at hm;cases h2:cn f1 jO xs with
   |none=>rw[h2]at hm;cases hm
   |some r=>
    obtain⟨II,f2,NI⟩:=r;rw[h2]at hm;cases hm;have m1:=q6 h1;have m2:=ih h2;refine⟨λt ht=>?_,λt=>?_,λhn=>?_⟩
    ·have e1:=m1.1 t ht;rw[m2.1 t (by rw[e1];exact ht),e1]
    ·rcases m2.2.1 t with e2|⟨⟨l,es,cs,e2⟩,y,e3⟩
     ·rcases m1.2.1 t with e1|⟨a,y,e1⟩
      ·exact .inl (e2.trans e1)
      ·exact .inr ⟨a,y,e2.trans e1⟩
     ·rcases m1.2.1 t with e1|⟨a,_⟩
      ·exact .inr ⟨⟨l,es,cs,e1▸e2⟩,y,e3⟩
      ·exact .inr ⟨a,y,e3⟩
    ·obtain⟨rfl,rfl,_⟩:=m1.2.2 λt ht=>hn t (by simp only[Dd,jY];exact .inl ht)
     exact m2.2.2 λt ht=>hn t (by simp only[Dd,jY];exact .inr ht)
theorem zt{f:FR}{h h':AH}(h1:∀t,(∀l es cs,fr t≠.ls l es cs)->f t=fr t)(h2:∀t,f t=fr t\/((∃l es cs,fr t=.ls l es cs)/\∃y,f t=.v y))
(h3:e.ext=aa->rm o.op=aa->(sn o.op=Z->e.rg≠[])->h'=H):mh e o fr H ((cb.of o.dst x).bA f) h':=by
 have hp:=uj (e:=e) (fr:=f) (H:=h) (o:=o) (x:=x);refine⟨λt a b c d=>?_,λs a b cs=>?_,h3⟩
 ·rw[hp.s t a b (by rw[h1 t c];exact c) (by rw[h1 t c];exact d)];exact h1 t c
 ·rw[hp.r s a b cs];rcases h2 s with e|⟨⟨l,es,cc,e⟩,y,e'⟩
  ·rw[e]
  ·rw[e,e'];simp
end
set_option linter.unusedSectionVars false
structure WF (pre:List (Option Tmp)) (e:DE) (o:Oper):Prop where
 sl:∀t,t∈Xz pre o->t∈e.sl
 ls:e.ls=Z->e.ext=Z\/rm o.op=Z
 call:K6 o.op=Z\/Rw o.op=Z->e.ext=Z
 Xm:∀t,e.mr=J t->t∈e.sl
 mr:Cc o.op=Z\/sn o.op=Z->e.rg=[]\/∃t,e.mr=J t/\Bp o.op=J t
structure Tw (U:cb) (e:DE) (o:Oper):Prop where
 sl:∀t,t∈e.sl->t∉U.dst
 rg:∀s,s∈e.rg->s∉U.dst
 ds:∀t,t∈o.dst.toList->t∉U.dst
 lp:∀d s k,U=.put d (.lp s k)->s∉o.dst.toList
theorem zGx{pre:List (Option Tmp)}{e:DE}{o:Oper}(h:PS pre e o=Z):WF pre e o:=by
 simp only[PS,bI]at h;obtain⟨⟨⟨⟨h1,h2⟩,h3⟩,h4⟩,h5⟩:=h;refine⟨λt ht=>?_,λhl=>?_,λhc=>?_,λt ht=>by simpa[ht]using h5,λhm=>?_⟩
 ·rw[bm]at h1;simpa using h1 t ht
 ·simpa[hl]using h2
 ·rcases hc with hc|hc<;>simpa[hc]using h3
 ·have:(e.rg.isEmpty||(e.mr.isSome&&e.mr==Bp o.op))=Z:=by
   rcases hm with hm|hm<;>simpa[hm]using h4
  simp only[tZ,bI]at this;rcases this with h|⟨h5,h6⟩
  ·left;simpa using h
  ·right;obtain⟨t,ht⟩:=Gt.1 h5;exact⟨t,ht,by rw[ht]at h6;exact(beq_iff_eq.1 h6).symm⟩
section
variable {P:Program}{nt:Nat}{pre:List (Option Tmp)}{e:DE}{o:Oper}{f g fr:FR}{H:AH}{U:cb}{K:FR->AH->Prop}
variable{t:TypeId}{x:Operand}{xs:List Operand}
theorem WF.of(hW:WF pre e o)(hx:x∈o.op.operands.toList):∀t,t∈dV x->t∈e.sl:=
 λt ht=>hW.sl t (sH _ (a0r.2 ⟨x,hx,ht⟩))
theorem WF.ew(hW:WF pre e o)(hx:∀x,x∈xs->x∈o.op.operands.toList):∀t,t∈xs.flatMap dV->t∈e.sl:=λt ht=>by
 obtain⟨x,h1,h2⟩:=a0r.1 ht;exact hW.of (hx x h1) t h2
theorem Wj{op:Op}(h:gw op=J xs):∀x,x∈xs->x∈op.operands.toList:=by
 cases op<;>simp only[gw,aT,reduceCtorEq]at h<;>try (subst h;simp[Op.operands])
 ·rename_i c;obtain⟨callee,args,ts⟩:=c;cases callee with
  |builtin b=>cases b<;>simp only[aT,reduceCtorEq]at h<;>(subst h;intro x hx;simp[Op.operands,Call.operands];simpa using hx)
  |_=>simp at h
theorem yM(hW:WF pre e o)(hc:jT e fr=Z)(h1:e.ext=aa)(h2:rm o.op=aa):∀t,t∈e.sl->∀l es cs,fr t≠.ls l es cs:=by
 intro t ht l es cs hf;simp only[jT,bI]at hc;have hk:=FA hc.1 t ht;rw[hf]at hk;rcases hW.ls hk with h|h
 ·rw[h1]at h;cases h
 ·rw[h2]at h;cases h
variable (hA:Tw U e o) (hW:WF pre e o) (hS:pQ e (U.bA fr) fr) (hc:jT e fr=Z)
include hA hW hS hc
theorem zyV{a:Operand}(ho:o.op=.load t a)(h:aM P nt o K (U.bA fr) H):aM P nt o (λf h=>K (U.bA f) h/\mh e o fr H f h) fr H:=by
 have hx:∀t,t∈dV a->t∈e.sl:=hW.of (by simp[ho,Op.operands])
 have e1:ma (U.bA fr) H a=ma fr H a:=by
  unfold ma;rw[qS hS hc hx];cases hr:bM fr a with
  |none=>rfl
  |some v=>
   cases v with
   |lp s k=>
    obtain⟨hs,cs,dP⟩:=zW hc hx hr;simp only;rw[dP,(hS.r s hs cs).2 dP]
   |v x=>
    cases x<;>try rfl
    rename_i p;cases p with
    |none=>rfl
    |some p=>obtain⟨i,k,sp⟩:=p;cases sp<;>rfl
   |_=>rfl
 simp only[aM,ho,e1]at h⊢;split at h
 ·rename_i v hv;exact oj h hA.ds (λs k hh=>by cases hh) uj
 ·cases h
omit hA hS in
theorem Zi{s k:Nat}(h:ib P fr o.op=J (.lp s k)):s∈e.rg:=by
 cases ho:o.op<;>rw[ho]at h<;>simp only[ib,reduceCtorEq]at h
 ·rename_i x;have hx:∀t,t∈dV x->t∈e.sl:=hW.of (by simp[ho,Op.operands]);split at h
  ·cases h
  ·rename_i hr;cases h;exact(zW hc hx hr).1
  ·cases h
 ·rename_i t x f;have hx:∀t,t∈dV x->t∈e.sl:=hW.of (by simp[ho,Op.operands]);split at h
  ·rename_i hr;cases h;exact(zW hc hx hr).1
  ·cases h
  ·cases h
 ·rename_i t x i;have hx:∀t,t∈dV x->t∈e.sl:=hW.of (by simp[ho,Op.operands])
  repeat' split at h
  all_goals first
   |(cases h;done)
   |(cases h;exact(zW hc hx (by assumption)).1)
omit hA in
theorem zyM:ib P (U.bA fr) o.op=ib P fr o.op:=by
 cases ho:o.op<;>simp only[ib]
 ·rename_i x;rw[qS hS hc (hW.of (by simp[ho,Op.operands]))]
 ·rename_i t x f;rw[qS hS hc (hW.of (by simp[ho,Op.operands]))]
 ·rename_i t x i;rw[qS hS hc (hW.of (by simp[ho,Op.operands])),nq hS (hW.of (by simp[ho,Op.operands]))]
theorem PW(h:match ib P (U.bA fr) o.op with|some x=>bB nt K o.dst x (U.bA fr) H|none=>False):
 match ib P fr o.op with|some x=>bB nt (λf h=>K (U.bA f) h/\mh e o fr H f h) o.dst x fr H|none=>False:=by
 rw[zyM hW hS hc]at h;cases hv:ib P fr o.op with
 |none=>rw[hv]at h;cases h
 |some y=>
  rw[hv]at h;exact oj h hA.ds (λs k hh=>hA.rg s (Zi hW hc (by rw[hv,hh]))) uj
theorem zym(ho:o.op=.alloc t)(h:aM P nt o K (U.bA fr) H):aM P nt o (λf h=>K (U.bA f) h/\mh e o fr H f h) fr H:=by
 simp only[aM,ho]at h⊢;split at h
 ·rename_i z d hz hd;split at h
  ·rename_i lh;rw[aB lh];refine⟨?_,YF hd⟩;rw[<-zql (hA.ds d (by simp[hd])) (λd' s k hu hs=>hA.lp d' s k hu (by simp[hd,hs]))];exact h
  ·cases h
 ·cases h
theorem zBt(ho:o.op=.box t x)(h:aM P nt o K (U.bA fr) H):aM P nt o (λf h=>K (U.bA f) h/\mh e o fr H f h) fr H:=by
 simp only[aM,ho,nq hS (hW.of (x:=x) (by simp[ho,Op.operands]))]at h⊢;split at h
 ·rename_i z v d hz hv hd;split at h
  ·rename_i lh;rw[aB lh];refine⟨?_,YF hd⟩;rw[<-zql (hA.ds d (by simp[hd])) (λd' s k hu hs=>hA.lp d' s k hu (by simp[hd,hs]))];exact h
  ·cases h
 ·cases h
theorem So(hx:∀x,x∈xs->x∈o.op.operands.toList):cn (U.bA fr) H xs=(cn fr H xs).map λr=>(r.1,U.bA r.2.1,r.2.2):=
 zy0 λt ht=>have h:=hW.ew hx t ht;⟨hA.sl t h,hS.s t h⟩
theorem Zu(hx:x∈o.op.operands.toList):bh (U.bA fr) H x=(bh fr H x).map λr=>(r.1,U.bA r.2.1,r.2.2):=
 zu7 λt ht=>have h:=hW.of hx t ht;⟨hA.sl t h,hS.s t h⟩
omit hA hS in
theorem M9{vs:List Value}{f:FR}{h:AH}(hx:∀x,x∈xs->x∈o.op.operands.toList)(hm:cn fr H xs=J (vs,f,h)):e.ext=aa->rm o.op=aa->f=fr/\h=H:=
 λh1 h2=>(AN hm).2.2 λt ht=>yM hW hc h1 h2 t (hW.ew hx t ht)
omit hA hS in
theorem Wz{v:Value}{f:FR}{h:AH}(hx:x∈o.op.operands.toList)(hm:bh fr H x=J (v,f,h)):e.ext=aa->rm o.op=aa->f=fr/\h=H:=
 λh1 h2=>let r:=(q6 hm).2.2 λt ht=>yM hW hc h1 h2 t (hW.of hx t ht);⟨r.1,r.2.1⟩
theorem JO(h:dA P nt o K (U.bA fr) H):dA P nt o (λf h=>K (U.bA f) h/\mh e o fr H f h) fr H:=by
 unfold dA at h⊢;cases hp:gw o.op with
 |none=>rw[hp]at h;cases h
 |some xs=>
  have hm:=Wj hp;rw[hp]at h;simp only[So hA hW hS hc hm]at h⊢;cases hx:cn fr H xs with
  |none=>rw[hx]at h;cases h
  |some r=>
   obtain⟨vs,f,h'⟩:=r;rw[hx]at h;simp only[l9]at h⊢;cases hv:eD P o.op vs with
   |none=>rw[hv]at h;cases h
   |some v=>
    rw[hv]at h;exact oj h hA.ds (λs k hh=>by cases hh) (zt (h:=h') (AN hx).1 (AN hx).2.1 λh1 h2 _=>(M9 hW hc hm hx h1 h2).2)
end
section
variable {P:Program}{nt:Nat}{pre:List (Option Tmp)}{e:DE}{o:Oper}{f g fr:FR}{H:AH}{U:cb}{K:FR->AH->Prop}
variable (hA:Tw U e o) (hW:WF pre e o) (hS:pQ e (U.bA fr) fr) (hc:jT e fr=Z)
include hA hW hS hc
variable{args:Array Operand}{t:TypeId}{ts:Array TypeId}
theorem zq6{len:Nat}{ps:Array (Nat×Operand)}(ho:o.op=.buildSlice t len ps)(h:aM P nt o K (U.bA fr) H):aM P nt o (λf h=>K (U.bA f) h/\mh e o fr H f h) fr H:=by
 have hm:∀x,x∈ps.toList.map (·.2)->x∈o.op.operands.toList:=by intro x hx;simpa[ho,Op.operands]using hx
 simp only[aM,ho,So hA hW hS hc hm]at h⊢;cases he:cS P t with
 |none=>rw[he]at h;cases h
 |some el=>
  cases hd:o.dst with
  |none=>rw[he,hd]at h;cases h
  |some d=>
   rw[he,hd]at h;cases hx:cn fr H (ps.toList.map (·.2))with
   |none=>rw[hx]at h;cases h
   |some r=>
    obtain⟨vs,f,h'⟩:=r;rw[hx]at h;simp only[l9]at h⊢;cases hz:cA P el with
    |none=>rw[hz]at h;cases h
    |some z=>
     obtain⟨gg,es,b,z⟩:=z;rw[hz]at h;simp only at h⊢;split at h
     ·rename_i lh;rw[aB lh];cases hf:jw (λi=>J (i*es,es)) ((ps.toList.map (·.1)).zip vs) ((List.replicate len z).flatten)with
      |none=>rw[hf]at h;cases h
      |some cs=>
       rw[hf]at h;simp only at h⊢;refine⟨?_,?_⟩
       ·rw[<-IJ (hA.ds d (by simp[hd])) (by intro s k hh;cases hh)];exact h
       ·have:=zt (e:=e) (o:=o) (h:=h') (x:=.ls len es cs) (AN hx).1 (AN hx).2.1 λh1 h2 _=>(M9 hW hc hm hx h1 h2).2
        rw[hd]at this;exact this
     ·cases h
theorem zzx{c a b:Operand}(ho:o.op=.pick c a b)(h:aM P nt o K (U.bA fr) H):aM P nt o (λf h=>K (U.bA f) h/\mh e o fr H f h) fr H:=by
 simp only[aM,ho,nq hS (hW.of (x:=c) (by simp[ho,Op.operands])),nq hS (hW.of (x:=a) (by simp[ho,Op.operands])),nq hS (hW.of (x:=b) (by simp[ho,Op.operands]))]at h⊢;split at h
 ·split at h
  ·exact oj h hA.ds (λs k hh=>by cases hh) uj
  ·cases h
 ·split at h
  ·exact oj h hA.ds (λs k hh=>by cases hh) uj
  ·cases h
 ·cases h
theorem Wf{x:Operand}(ho:o.op=.move x\/o.op=.assign x)(h:aM P nt o K (U.bA fr) H):aM P nt o (λf h=>K (U.bA f) h/\mh e o fr H f h) fr H:=by
 have hx:∀t,t∈dV x->t∈e.sl:=hW.of (by rcases ho with ho|ho<;>simp[ho,Op.operands])
 have he:∀K fr,aM P nt o K fr H=match bM fr x with
  |some (.lp s off)=>bB nt K o.dst (.lp s off) fr H
  |_=>dA P nt o K fr H:=by intro K fr;rcases ho with ho|ho<;>(simp only[aM,ho];rfl)
 rw[he]at h⊢;simp only[qS hS hc hx]at h⊢;split at h
 ·rename_i s k hr;exact oj h hA.ds (λs' k' hh=>by cases hh;exact hA.rg s (zW hc hx hr).1) uj
 ·exact JO hA hW hS hc h
theorem zrN{l c:Operand}(ho:o.op=.makeSlice t l c)(h:aM P nt o K (U.bA fr) H):aM P nt o (λf h=>K (U.bA f) h/\mh e o fr H f h) fr H:=by
 simp only[aM,ho,nq hS (hW.of (x:=l) (by simp[ho,Op.operands])),nq hS (hW.of (x:=c) (by simp[ho,Op.operands]))]at h⊢;split at h
 ·split at h
  ·split at h
   ·rename_i lh;rw[aB lh];have he:=hW.call (.inr (by simp[ho,Rw]));refine oj h hA.ds (λs k hh=>by cases hh) ?_;have:=uj (e:=e) (o:=o) (fr:=fr) (H:=H) (x:=.v (.slice (J ⟨H.n,0,J ‹Nat›⟩) 0 0));refine zt (h:=H) (λ_ _=>rfl) (λ_=>.inl rfl) ?_;intro h1;rw[he]at h1;cases h1
   ·cases h
  ·cases h
 ·cases h
theorem zyX{fn:Operand}(ho:o.op=.call ⟨.value fn,args,ts⟩)(h:aM P nt o K (U.bA fr) H):aM P nt o (λf h=>K (U.bA f) h/\mh e o fr H f h) fr H:=by
 have hm:∀x,x∈args.toList->x∈o.op.operands.toList:=by intro x hx;simp[ho,Op.operands,Call.operands];exact .inr (by simpa using hx)
 simp only[aM,ho,So hA hW hS hc hm]at h⊢;cases hx:cn fr H args.toList with
 |none=>rw[hx]at h;cases h
 |some r=>
  obtain⟨vs,f,h'⟩:=r;rw[hx]at h;simp only[l9]at h⊢
  have Ho:∀t,t∈dV fn->U.bA f t=f t:=by
   intro t ht;have gR:=hW.of (x:=fn) (by simp[ho,Op.operands,Call.operands]) t ht;have h1:=hS.s t gR;have h2:=hA.sl t gR;rcases(AN hx).2.1 t with e1|⟨_,y,e1⟩
   ·cases U with
    |no=>rfl
    |put d z=>simp only[cb.dst,gB]at h2;simp[cb.bA,FR.put,h2]
    |loc d z=>
     simp only[cb.dst,gB]at h2;simp only[cb.bA,FR.eS,az h2]at h1⊢;rw[e1];exact h1
   ·cases U with
    |no=>rfl
    |put d z=>simp only[cb.dst,gB]at h2;simp[cb.bA,FR.put,h2]
    |loc d z=>
     simp only[cb.dst,gB]at h2;simp only[cb.bA,FR.eS,az h2];rw[e1];rfl
  have hr:be (U.bA f) fn=be f fn:=by
   cases fn with
   |tmp t=>simp only[be,Ho t (by simp[dV])]
   |_=>rfl
  rw[hr]at h;split at h
  ·rename_i g' first kf hg
   exact h.mono λv n9 hk=>oj hk hA.ds (λs k hh=>by cases hh) (zt (h:=h') (AN hx).1 (AN hx).2.1 λh1=>by rw[hW.call (.inl (by simp[ho,K6]))]at h1;cases h1)
  ·cases h
omit hA hW hS hc in
theorem ztu{t:Nat}{f:FR}(h2:t∉U.dst)(h1:U.bA fr t=fr t)(e1:f t=fr t\/((∃l es cs,fr t=.ls l es cs)/\∃y,f t=.v y)):U.bA f t=f t:=by
 rcases e1 with e1|⟨_,y,e1⟩
 ·cases U with
  |no=>rfl
  |put d z=>simp only[cb.dst,gB]at h2;simp[cb.bA,FR.put,h2]
  |loc d z=>
   simp only[cb.dst,gB]at h2;simp only[cb.bA,FR.eS,az h2]at h1⊢;rw[e1];exact h1
 ·cases U with
  |no=>rfl
  |put d z=>simp only[cb.dst,gB]at h2;simp[cb.bA,FR.put,h2]
  |loc d z=>
   simp only[cb.dst,gB]at h2;simp only[cb.bA,FR.eS,az h2];rw[e1];rfl
theorem zvL(ho:o.op=.call ⟨.builtin .append,args,ts⟩)(h:aM P nt o K (U.bA fr) H):aM P nt o (λf h=>K (U.bA f) h/\mh e o fr H f h) fr H:=by
 simp only[aM,ho]at h⊢;split at h
 ·rename_i s x t t' ha ht;split at h
  ·rename_i xb;rw[aB xb];have Lm:s∈o.op.operands.toList:=by rw[ho];simp[Op.operands,Call.operands,ha]
   have gE:x∈o.op.operands.toList:=by rw[ho];simp[Op.operands,Call.operands,ha]
   simp only[Zu hA hW hS hc Lm]at h;cases hx:bh fr H s with
   |none=>rw[hx]at h;cases h
   |some r=>
    obtain⟨sv,f,h'⟩:=r;rw[hx]at h;simp only[l9]at h⊢
    have iY:iq P t (U.bA f) h' x=iq P t f h' x:=by
     cases x with
     |tmp u=>
      have gR:=hW.of gE u (by simp[dV]);have:=ztu (hA.sl u gR) (hS.s u gR) ((q6 hx).2.1 u);simp only[iq,this]
     |const c=>
      cases c<;>try rfl
      rename_i p n m;cases p<;>cases n<;>cases m<;>rfl
     |_=>rfl
    rw[iY]at h;split at h
    ·rename_i new mm hn;split at h
     ·rename_i v n9 hv;exact oj h hA.ds (λs k hh=>by cases hh) (zt (h:=h') (q6 hx).1 (q6 hx).2.1 λ_ h2=>by rw[ho]at h2;simp[rm]at h2)
     ·cases h
    ·cases h
  ·cases h
 ·cases h
theorem zzS(ho:o.op=.call ⟨.builtin .copy,args,ts⟩)(h:aM P nt o K (U.bA fr) H):aM P nt o (λf h=>K (U.bA f) h/\mh e o fr H f h) fr H:=by
 simp only[aM,ho]at h⊢;split at h
 ·rename_i x y t t' ha ht;have gE:x∈o.op.operands.toList:=by rw[ho];simp[Op.operands,Call.operands,ha]
  have hmy:y∈o.op.operands.toList:=by rw[ho];simp[Op.operands,Call.operands,ha]
  have iY:iq P t (U.bA fr) H y=iq P t fr H y:=by
   cases y with
   |tmp u=>simp only[iq,hS.s u (hW.of hmy u (by simp[dV]))]
   |const c=>
    cases c<;>try rfl
    rename_i p n m;cases p<;>cases n<;>cases m<;>rfl
   |_=>rfl
  rw[iY,nq hS (hW.of gE)]at h;split at h
  ·split at h
   ·split at h
    ·rename_i lh;rw[aB lh];split at h
     ·exact oj h hA.ds (λs k hh=>by cases hh) (zt (h:=H) (λ_ _=>rfl) (λ_=>.inl rfl) λh1=>by rw[hW.call (.inl (by simp[ho,K6]))]at h1;cases h1)
     ·cases h
    ·cases h
   ·cases h
  ·cases h
 ·cases h
theorem zxu{a x:Operand}(ho:o.op=.store t a x)(h:aM P nt o K (U.bA fr) H):aM P nt o (λf h=>K (U.bA f) h/\mh e o fr H f h) fr H:=by
 have gE:x∈o.op.operands.toList:=by simp[ho,Op.operands]
 have hma:a∈o.op.operands.toList:=by simp[ho,Op.operands]
 simp only[aM,ho,Zu hA hW hS hc gE]at h⊢;cases hx:bh fr H x with
 |none=>rw[hx]at h;cases h
 |some r=>
  obtain⟨v,f,h'⟩:=r;rw[hx]at h;simp only[l9]at h⊢;cases hz:cA P t with
  |none=>rw[hz]at h;cases h
  |some z=>
   obtain⟨gg,sz,rr⟩:=z;rw[hz]at h;simp only at h⊢;split at h
   ·rename_i lh;rw[aB lh]
    have nj:bM (U.bA f) a=bM f a/\∀s k,bM f a=J (.lp s k)->s∈e.rg/\U.bA f s=f s:=by
     have A7:∀s,s∈e.rg->∀cs,f s=.loc cs->U.bA f s=.loc cs:=λs hs cs hf=>(Rd (hA.rg s hs) cs).2 hf
     have a1i:∀s,s∈e.rg->∀cs,U.bA f s=.loc cs->f s=.loc cs:=λs hs cs hf=>(Rd (hA.rg s hs) cs).1 hf
     cases a with
     |tmp u=>
      have gR:=hW.of hma u (by simp[dV]);have hu:=ztu (hA.sl u gR) (hS.s u gR) ((q6 hx).2.1 u)
      have hk:∀y,f u=y->ZK y=Z->s8 e.rg e.ls u y=Z:=by
       intro y hy hr;simp only[jT,bI]at hc;have:=FA hc.1 u gR;rcases(q6 hx).2.1 u with e1|⟨_,w,e1⟩
       ·rw[<-hy,e1];exact this
       ·rw[hy]at e1;subst e1;cases hr
      simp only[bM,hu];cases nB:f u with
      |lp s k=>
       have hs:s∈e.rg:=NL (hk _ nB rfl);simp only;constructor
       ·cases jy:f s with
        |loc cs=>rw[A7 s hs cs jy]
        |_=>
         cases Rj:U.bA f s with
         |loc cs=>rw[a1i s hs cs Rj]at jy;cases jy
         |_=>rfl
       ·intro s' k' hh;cases jy:f s with
        |loc cs=>rw[jy]at hh;cases hh;exact⟨hs,by rw[A7 s hs cs jy,jy]⟩
        |_=>rw[jy]at hh;cases hh
      |loc cs=>
       refine⟨rfl,λs' k' hh=>?_⟩;cases hh;have hs:u∈e.rg:=WK (hk _ nB rfl);exact⟨hs,by rw[A7 u hs cs nB,nB]⟩
      |v y=>exact⟨rfl,λ_ _ hh=>by cases hh⟩
      |skip=>exact⟨rfl,λ_ _ hh=>by cases hh⟩
      |ls=>exact⟨rfl,λ_ _ hh=>by cases hh⟩
     |const c=>exact⟨rfl,λs k hh=>by simp only[bM,be]at hh;split at hh<;>cases hh⟩
     |func c=>exact⟨rfl,λs k hh=>by simp only[bM,be]at hh;cases hh⟩
     |global c=>exact⟨rfl,λs k hh=>by simp only[bM,be]at hh;cases hh⟩
    rw[nj.1]at h;have Lf:sn o.op=Z:=by rw[ho];rfl
    have hap:rm o.op=aa:=by rw[ho];rfl
    split at h
    ·rename_i s k hr;obtain⟨hs,Rj⟩:=nj.2 s k hr;rw[Rj]at h;cases jy:f s with
     |loc cells=>
      rw[jy]at h;simp only at h⊢;cases hp:fY cells k v.cells.toList with
      |none=>rw[hp]at h;cases h
      |some cs=>
       rw[hp]at h;simp only at h⊢;rw[IJ (hA.rg s hs) (by intro a b hh;cases hh)]at h;refine oj h hA.ds (λs k hh=>by cases hh) ?_;have Pk:=uj (e:=e) (fr:=f.put s (.loc cs)) (H:=h') (o:=o) (x:=.skip);have hm:=q6 hx;refine⟨λt a b c d=>?_,λs2 a b c2=>?_,λh1 h2 _=>(Wz hW hc gE hx h1 h2).2⟩
       ·have hne:t≠s:=by rintro rfl;exact b Lf hs
        have e1:=hm.1 t c;rw[Pk.s t a b (by simp only[FR.put,az hne];rw[e1];exact c) (by simp only[FR.put,az hne];rw[e1];exact d)];simp only[FR.put,az hne];exact e1
       ·have hne:s2≠s:=by rintro rfl;exact b Lf hs
        rw[Pk.r s2 a b c2];simp only[FR.put,az hne];rcases hm.2.1 s2 with e1|⟨⟨l,es,cc,e1⟩,y,e2⟩
        ·rw[e1]
        ·rw[e1,e2];simp
     |_=>rw[jy]at h;cases h
    ·rename_i id off hr;split at h
     ·rename_i b hb;split at h
      ·rename_i bc;rw[aB bc];split at h
       ·rename_i cs dP;refine oj h hA.ds (λs k hh=>by cases hh) (zt (h:=h') (q6 hx).1 (q6 hx).2.1 λh1 h2 h3=>?_);exfalso;rcases hW.mr (.inr Lf)with h4|⟨u,h4,h5⟩
        ·exact h3 Lf h4
        ·
         simp only[jT,bI]at hc;have h6:=hc.2;rw[h4]at h6;simp only[Fe]at h6;rw[ho]at h5;cases a with
         |tmp u'=>
          simp only[Bp,aT]at h5;subst h5;obtain⟨rfl,rfl⟩:=Wz hW (by simp only[jT,bI];exact hc) gE hx h1 h2;simp only[bM]at hr;cases nB:f u' with
          |loc cs=>rw[nB]at hr;cases hr
          |lp s k=>rw[nB]at hr;simp only at hr;split at hr<;>cases hr
          |v y=>rw[nB]at h6;cases h6
          |skip=>rw[nB]at hr;cases hr
          |ls=>rw[nB]at h6;cases h6
         |_=>simp[Bp]at h5
       ·cases h
      ·cases h
     ·cases h
    ·cases h
   ·cases h
theorem Zv(h:aM P nt o K (U.bA fr) H):aM P nt o (λf h=>K (U.bA f) h/\mh e o fr H f h) fr H:=by
 cases ho:o.op with
 |load=>exact zyV hA hW hS hc ho h
 |fieldAddr=>
  have:=PW (P:=P) (nt:=nt) (K:=K) (H:=H) hA hW hS hc (by simp only[aM,ho]at h;rw[ho];exact h);simp only[aM,ho];rw[ho]at this;exact this
 |indexAddr t x i=>
  simp only[aM,ho]at h⊢;rcases h with h|⟨u,l,es,cs,k,j,el,g,z,rfl,a2,a3,a4,a5,a6,a7⟩
  ·have:=PW (P:=P) (nt:=nt) (K:=K) (H:=H) hA hW hS hc (by rw[ho];exact h);rw[ho]at this;exact .inl this
  ·have hu:=hW.of (x:=.tmp u) (by simp[ho,Op.operands]) u (by simp[dV]);rw[hS.s u hu]at a2;rw[nq hS (hW.of (x:=i) (by simp[ho,Op.operands]))]at a3;rw[IJ (hA.sl u hu) (by intro s k hh;cases hh)]at a7;refine .inr ⟨u,l,es,cs,k,j,el,g,z,rfl,a2,a3,a4,a5,a6,oj a7 hA.ds (λs k hh=>by cases hh) ?_⟩;refine zt (h:=H) (λt ht=>?_) (λt=>?_) λh1 h2 _=>absurd a2 (yM hW hc h1 h2 u hu l es cs)
   ·by_cases hh:t=u
    ·subst hh;exact absurd a2 (ht l es cs)
    ·simp[FR.put,hh]
   ·by_cases hh:t=u
    ·subst hh;exact .inr ⟨⟨l,es,cs,a2⟩,.slice (J ⟨H.n,0,J es⟩) l l,by simp[FR.put]⟩
    ·left;simp[FR.put,hh]
 |nilCheck=>
  have:=PW (P:=P) (nt:=nt) (K:=K) (H:=H) hA hW hS hc (by simp only[aM,ho]at h;rw[ho];exact h);simp only[aM,ho];rw[ho]at this;exact this
 |alloc=>exact zym hA hW hS hc ho h
 |box=>exact zBt hA hW hS hc ho h
 |buildSlice=>exact zq6 hA hW hS hc ho h
 |store=>exact zxu hA hW hS hc ho h
 |pick=>exact zzx hA hW hS hc ho h
 |makeSlice=>exact zrN hA hW hS hc ho h
 |move=>exact Wf hA hW hS hc (.inl ho) h
 |assign=>exact Wf hA hW hS hc (.inr ho) h
 |convert s t x=>
  simp only[aM,ho]at h⊢;rcases h with h|⟨h1,l,ns,h2,h3⟩
  ·exact .inl (JO hA hW hS hc h)
  ·refine .inr ⟨h1,l,ns,?_,oj h3 hA.ds (λs k hh=>by cases hh) uj⟩;rw[<-h2];cases x with
   |tmp u=>simp only[FB,hS.s u (hW.of (x:=.tmp u) (by simp[ho,Op.operands]) u (by simp[dV]))]
   |_=>rfl
 |call c=>
  obtain⟨callee,args,ts⟩:=c;cases callee with
  |value fn=>exact zyX hA hW hS hc ho h
  |builtin b=>
   cases b with
   |append=>exact zvL hA hW hS hc ho h
   |copy=>exact zzS hA hW hS hc ho h
   |_=>simp only[aM,ho]at h⊢;exact JO hA hW hS hc h
  |_=>simp only[aM,ho]at h⊢;exact JO hA hW hS hc h
 |_=>simp only[aM,ho]at h⊢;exact JO hA hW hS hc h
theorem zA1(h:na P nt pre o K (U.bA fr) H):na P nt pre o (λf h=>K (U.bA f) h/\mh e o fr H f h) fr H:=by
 have hy:∀j b,o.guard=J (j,b)->ou (U.bA fr) pre j=ou fr pre j:=by
  intro j b hg;unfold ou;cases hp:pre[j]? with
  |none=>rfl
  |some d=>
   cases d with
   |none=>rfl
   |some d=>
    simp only;rw[hS.s d (hW.sl d (yz _ (by simp[TV,hg,hp])))]
 unfold na at h⊢;cases hg:o.guard with
 |none=>rw[hg]at h;exact Zv hA hW hS hc h
 |some p=>
  obtain⟨j,b⟩:=p;rw[hg]at h;simp only[hy j b hg]at h⊢;cases hv:ou fr pre j with
  |none=>rw[hv]at h;cases h
  |some y=>
   rw[hv]at h;simp only at h⊢;split at h
   ·rename_i e1;rw[aB e1];exact Zv hA hW hS hc h
   ·rename_i e1;rw[az e1];exact oj h hA.ds (λs k hh=>by cases hh) uj
end
section
variable {P:Program}{nt:Nat}{pre:List (Option Tmp)}{e:DE}{o:Oper}{f g fr:FR}{H:AH}{U:cb}{K:FR->AH->Prop}
variable{d:Option Tmp}{x:FV}
theorem zyS{x:Operand}{v:Value}{f1:FR}{h1:AH}(hs:∀t,t∈dV x->f t=fr t)(hn:∀t,t∈dV x->∀l es cs,fr t≠.ls l es cs)(hm:bh fr H x=J (v,f1,h1))(h:AH):bh f h x=J (v,f,h):=by
 have hr:=((q6 hm).2.2 hn).2.2;cases x with
 |tmp t=>
  simp only[be]at hr;simp only[bh,hs t (by simp[dV])];cases hf:fr t with
  |v y=>rw[hf]at hr;cases hr;rfl
  |_=>rw[hf]at hr;cases hr
 |const c=>simp only[bh];simp only[be]at hr⊢;rw[hr];rfl
 |func c=>simp only[bh];simp only[be]at hr⊢;rw[hr];rfl
 |global c=>cases hr
theorem Xq:∀{xs:List Operand}{vs:List Value}{f1:FR}{h1:AH}(_:∀t,t∈xs.flatMap dV->f t=fr t) (_:∀t,t∈xs.flatMap dV->∀l es cs,fr t≠.ls l es cs) (_:cn fr H xs=J (vs,f1,h1)) (h:AH),cn f h xs=J (vs,f,h):=by
 intro xs;induction xs with
 |nil=>intro vs f1 h1 _ _ hm h;cases hm;rfl
 |cons x xs ih=>
  intro vs f1 h1 hs hn hm h;simp only[Dd,jY]at hs hn;simp only[cn]at hm;cases e1:bh fr H x with
  |none=>rw[e1]at hm;cases hm
  |some r=>
   obtain⟨v,f2,h2⟩:=r;have hx:=(q6 e1).2.2 λt ht=>hn t (.inl ht)
   obtain⟨rfl,rfl,_⟩:=hx;rw[e1]at hm;simp only at hm;cases e2:cn f2 h2 xs with
   |none=>rw[e2]at hm;cases hm
   |some r=>
    obtain⟨II,f3,h3⟩:=r;rw[e2]at hm;cases hm;simp only[cn,zyS (λt ht=>hs t (.inl ht)) (λt ht=>hn t (.inl ht)) e1 h,ih (λt ht=>hs t (.inr ht)) (λt ht=>hn t (.inr ht)) e2 h]
theorem zBM(h:bB nt K d x fr H):(∀t,d=J t->t<nt)/\K ((cb.of d x).bA fr) H:=by
 cases d with
 |none=>exact⟨λ_ h=>(by cases h),h⟩
 |some d=>
  simp only[bB]at h;split at h
  ·rename_i hd;exact⟨λt e=>by cases e;exact hd,h⟩
  ·cases h
theorem zBH(hd:∀t,d=J t->t<nt)(h:K ((cb.of d x).bA fr) H):bB nt K d x fr H:=by
 cases d with
 |none=>exact h
 |some d=>simp only[bB];rw[aB (hd d rfl)];exact h
theorem zDi :(cb.of d x).dst=d.toList:=by cases d<;>rfl
theorem zIa{t s k:Nat}(h:cb.of d x=.put t (.lp s k)):x=.lp s k:=by
 cases d with
 |none=>cases h
 |some d=>simp only[cb.of,cb.put.injEq]at h;exact h.2
def BI(_:Program)(_:Nat)(e:DE)(o:Oper)(fr:FR)(H:AH)(K:FR->AH->Prop)(run:(FR->AH->Prop)->FR->AH->Prop):Prop:=
 ∃U:cb,U.dst=o.dst.toList/\(∀d s k,U=.put d (.lp s k)->s∈e.rg)/\K (U.bA fr) H/\
  ∀(f:FR) (h:AH) (K':FR->AH->Prop),pQ e f fr->(Cc o.op=Z->e.rg=[]->ft H h)->K' (U.bA f) h->run K' f h
theorem AC{run:(FR->AH->Prop)->FR->AH->Prop}(hx:∀s k,x=.lp s k->s∈e.rg)(h:bB nt K o.dst x fr H)
(hr:∀(f:FR) (h:AH) (K':FR->AH->Prop),pQ e f fr->(Cc o.op=Z->e.rg=[]->ft H h)->bB nt K' o.dst x f h->run K' f h):BI P nt e o fr H K run:=by
 have:=zBM h;exact⟨cb.of o.dst x,zDi,λd s k hu=>hx s k (zIa hu),this.2,λf h K' hS hL hK=>hr f h K' hS hL (zBH this.1 hK)⟩
variable (hW:WF pre e o) (hs:TP e o=Z) (hc:jT e fr=Z)
include hW hs hc
theorem TY:e.ext=aa/\rm o.op=aa/\sn o.op=aa:=by
 simp only[TP,bI,qd]at hs;exact⟨hs.1.1,hs.1.2,hs.2⟩
theorem Nu{xs:List Operand}(hp:gw o.op=J xs)(h:dA P nt o K fr H):BI P nt e o fr H K (dA P nt o):=by
 have hm:=Wj hp;have dW:=TY hW hs hc;unfold dA at h;rw[hp]at h;simp only at h;cases hx:cn fr H xs with
 |none=>rw[hx]at h;cases h
 |some r=>
  obtain⟨vs,f,h'⟩:=r;obtain⟨rfl,rfl⟩:=M9 hW hc hm hx dW.1 dW.2.1;rw[hx]at h;simp only at h;cases hv:eD P o.op vs with
  |none=>rw[hv]at h;cases h
  |some v=>
   rw[hv]at h;refine AC (λs k hh=>by cases hh) h λf2 h2 K' hS _ hK=>?_
   unfold dA;rw[hp];simp only;rw[Xq (λt ht=>hS.s t (hW.ew hm t ht)) (λt ht=>yM hW hc dW.1 dW.2.1 t (hW.ew hm t ht)) hx h2];simp only[hv];exact hK
theorem ZM(h:aM P nt o K fr H):BI P nt e o fr H K (aM P nt o):=by
 have dW:=TY hW hs hc
 have tf:(∀K fr H,aM P nt o K fr H=dA P nt o K fr H)->BI P nt e o fr H K (aM P nt o):=by
  intro he;have e1:aM P nt o=dA P nt o:=by funext K fr H;exact he K fr H
  rw[e1]at h⊢;cases hp:gw o.op with
  |none=>unfold dA at h;rw[hp]at h;cases h
  |some xs=>exact Nu hW hs hc hp h
 have Ta:(match ib P fr o.op with|some x=>bB nt K o.dst x fr H|none=>False)->(∀K fr H,(match ib P fr o.op with|some x=>bB nt K o.dst x fr H|none=>False)->aM P nt o K fr H)->BI P nt e o fr H K (aM P nt o):=by
  intro h he;cases hv:ib P fr o.op with
  |none=>rw[hv]at h;cases h
  |some y=>
   rw[hv]at h;refine AC (λs k hh=>Zi hW hc (by rw[hv,hh])) h λf2 h2 K' hS _ hK=>?_
   apply he
   have e2:ib P f2 o.op=ib P fr o.op:=by
    cases ho:o.op<;>simp only[ib]
    ·rename_i x;rw[qS hS hc (hW.of (by simp[ho,Op.operands]))]
    ·rename_i t x f;rw[qS hS hc (hW.of (by simp[ho,Op.operands]))]
    ·rename_i t x i;rw[qS hS hc (hW.of (by simp[ho,Op.operands])),nq hS (hW.of (by simp[ho,Op.operands]))]
   rw[e2,hv];exact hK
 cases ho:o.op with
 |load t a=>
  have hx:∀t,t∈dV a->t∈e.sl:=hW.of (by simp[ho,Op.operands])
  have he:∀K fr H,aM P nt o K fr H=match mX P t (ma fr H a)with|some v=>bB nt K o.dst (.v v) fr H|none=>False:=by
   intro K fr H;simp only[aM,ho];rfl
  rw[he]at h;cases hv:mX P t (ma fr H a)with
  |none=>rw[hv]at h;cases h
  |some v=>
   rw[hv]at h;refine AC (λs k hh=>by cases hh) h λf2 h2 K' hS hL hK=>?_
   rw[he]
   have hne:∃cs,ma fr H a=J cs:=by
    cases hl:ma fr H a with
    |none=>rw[hl]at hv;unfold mX at hv;split at hv<;>simp_all
    |some cs=>exact⟨cs,rfl⟩
   obtain⟨cs,dP⟩:=hne
   have e2:ma f2 h2 a=ma fr H a:=by
    rw[dP];unfold ma at dP⊢;rw[qS hS hc hx];cases hr:bM fr a with
    |none=>rw[hr]at dP;cases dP
    |some y=>
     rw[hr]at dP;cases y with
     |lp s k=>
      obtain⟨h1,c2,h3⟩:=zW hc hx hr;simp only at dP⊢;rw[h3]at dP;rw[(hS.r s h1 c2).2 h3];exact dP
     |v y=>
      cases y<;>try (cases dP;done)
      rename_i p;cases p with
      |none=>cases dP
      |some p=>
       obtain⟨id,off,sp⟩:=p;cases sp with
       |some _=>cases dP
       |none=>
        have hrg:e.rg=[]:=by
         rcases hW.mr (.inl (by rw[ho];rfl))with h4|⟨u,h4,h5⟩
         ·exact h4
         ·exfalso;simp only[jT,bI]at hc;have h6:=hc.2;rw[h4]at h6;simp only[Fe]at h6;rw[ho]at h5;cases a with
          |tmp u'=>
           simp only[Bp,aT]at h5;subst h5;simp only[bM]at hr;cases nB:fr u' with
           |loc cs=>rw[nB]at hr;cases hr
           |lp s k=>rw[nB]at hr;simp only at hr;split at hr<;>cases hr
           |v y=>rw[nB]at h6;cases h6
           |skip=>rw[nB]at hr;cases hr
           |ls=>rw[nB]at h6;cases h6
          |_=>simp[Bp]at h5
        have hE:=hL (by rw[ho];rfl) hrg;simp only[AH.load,bN]at dP⊢;obtain⟨b,h7,h8⟩:=dP;exact⟨b,hE.2 id b h7,h8⟩
     |_=>cases dP
   rw[e2,hv];exact hK
 |fieldAddr=>exact Ta (by simp only[aM,ho]at h;rw[ho];exact h) (λK fr H hh=>by simp only[aM,ho];rw[ho]at hh;exact hh)
 |indexAddr t x i=>
  have h1:=h;simp only[aM,ho]at h1;rcases h1 with h1|⟨u,l,es,cs,k,j,el,g,z,rfl,a2,_⟩
  ·exact Ta (by rw[ho];exact h1) (λK fr H hh=>by simp only[aM,ho];rw[ho]at hh;exact .inl hh)
  ·exact absurd a2 (yM hW hc dW.1 dW.2.1 u (hW.of (x:=.tmp u) (by simp[ho,Op.operands]) u (by simp[dV])) l es cs)
 |nilCheck=>exact Ta (by simp only[aM,ho]at h;rw[ho];exact h) (λK fr H hh=>by simp only[aM,ho];rw[ho]at hh;exact hh)
 |alloc t=>
  have he:∀K fr H,aM P nt o K fr H=match cA P t,o.dst with
   |some (_,_,_,z),J d=>if d<nt/\z.all ct=Z then K (fr.eS d z) H else False
   |_,_=>False:=by intro K fr H;simp only[aM,ho];rfl
  rw[he]at h;split at h
  ·rename_i a1 a2 a3 z d hz hd;split at h
   ·rename_i lh;refine⟨.loc d z,by simp[cb.dst,hd],λ_ _ _ hh=>(by cases hh),h,λf2 h2 K' _ _ hK=>?_⟩;rw[he,hz,hd];simp only;rw[aB lh];exact hK
   ·cases h
  ·cases h
 |box t x=>
  have he:∀K fr H,aM P nt o K fr H=match cA P t,be fr x,o.dst with
   |some _,J v,J d=>if d<nt/\mD v=Z then K (fr.eS d v.cells.toList) H else False
   |_,_,_=>False:=by intro K fr H;simp only[aM,ho];rfl
  rw[he]at h;split at h
  ·rename_i z v d hz hv hd;split at h
   ·rename_i lh;refine⟨.loc d v.cells.toList,by simp[cb.dst,hd],λ_ _ _ hh=>(by cases hh),h,λf2 h2 K' hS _ hK=>?_⟩;rw[he,hz,hd,nq hS (hW.of (x:=x) (by simp[ho,Op.operands])),hv];simp only;rw[aB lh];exact hK
   ·cases h
  ·cases h
 |buildSlice t len ps=>
  have hm:∀x,x∈ps.toList.map (·.2)->x∈o.op.operands.toList:=by intro x hx;simpa[ho,Op.operands]using hx
  have he:∀K fr H,aM P nt o K fr H=match cS P t,o.dst,cn fr H (ps.toList.map (·.2))with
   |some e,J d,J (vs,ai,H')=>match cA P e with
    |some (_,es,_,z)=>if d<nt/\len*es<=2^24/\z.length=es/\es≠0/\z.all ct=Z then
     match jw (λi=>J (i*es,es)) ((ps.toList.map (·.1)).zip vs) ((List.replicate len z).flatten)with
     |some cs=>K (ai.put d (.ls len es cs)) H'
     |none=>False
     else False
    |none=>False
   |_,_,_=>False:=by intro K fr H;simp only[aM,ho];rfl
  rw[he]at h;cases h1:cS P t with
  |none=>rw[h1]at h;cases h
  |some el=>
   cases hd:o.dst with
   |none=>rw[h1,hd]at h;cases h
   |some d=>
    cases hx:cn fr H (ps.toList.map (·.2))with
    |none=>rw[h1,hd,hx]at h;cases h
    |some r=>
     obtain⟨vs,f,h'⟩:=r;obtain⟨rfl,rfl⟩:=M9 hW hc hm hx dW.1 dW.2.1;rw[h1,hd,hx]at h;simp only at h;cases hz:cA P el with
     |none=>rw[hz]at h;cases h
     |some z=>
      obtain⟨gg,es,b,z⟩:=z;rw[hz]at h;simp only at h;split at h
      ·rename_i lh;cases hf:jw (λi=>J (i*es,es)) ((ps.toList.map (·.1)).zip vs) ((List.replicate len z).flatten)with
       |none=>rw[hf]at h;cases h
       |some cs=>
        rw[hf]at h;refine⟨.put d (.ls len es cs),by simp[cb.dst,hd],λ_ _ _ hh=>(by cases hh),h,λf2 h2 K' hS _ hK=>?_⟩;rw[he,h1,hd,Xq (λt ht=>hS.s t (hW.ew hm t ht)) (λt ht=>yM hW hc dW.1 dW.2.1 t (hW.ew hm t ht)) hx h2];simp only[hz];rw[aB lh,hf];exact hK
      ·cases h
 |pick c a b=>
  have uc:=λ{f2:FR}(hS:pQ e f2 fr)=>nq hS (hW.of (x:=c) (by simp[ho,Op.operands]))
  have ha':=λ{f2:FR}(hS:pQ e f2 fr)=>nq hS (hW.of (x:=a) (by simp[ho,Op.operands]))
  have gD:=λ{f2:FR}(hS:pQ e f2 fr)=>nq hS (hW.of (x:=b) (by simp[ho,Op.operands]))
  have he:∀K fr H,aM P nt o K fr H=match be fr c with
   |some (.bool Z)=>match be fr a with
    |some v=>bB nt K o.dst (.v v) fr H
    |none=>False
   |some (.bool aa)=>match be fr b with
    |some v=>bB nt K o.dst (.v v) fr H
    |none=>False
   |_=>False:=by intro K fr H;simp only[aM,ho];rfl
  rw[he]at h;split at h
  ·rename_i QE;split at h
   ·rename_i v hv;refine AC (λs k hh=>by cases hh) h λf2 h2 K' hS _ hK=>?_
    rw[he,uc hS,QE];simp only;rw[ha' hS,hv];exact hK
   ·cases h
  ·rename_i QE;split at h
   ·rename_i v hv;refine AC (λs k hh=>by cases hh) h λf2 h2 K' hS _ hK=>?_
    rw[he,uc hS,QE];simp only;rw[gD hS,hv];exact hK
   ·cases h
  ·cases h
 |makeSlice=>exact absurd (hW.call (.inr (by rw[ho];rfl))) (by rw[dW.1];decide)
 |store=>have:=dW.2.2;rw[ho]at this;cases this
 |move x=>
  have hx:∀t,t∈dV x->t∈e.sl:=hW.of (by simp[ho,Op.operands])
  have he:∀K fr H,aM P nt o K fr H=match bM fr x with
   |some (.lp s off)=>bB nt K o.dst (.lp s off) fr H
   |_=>dA P nt o K fr H:=by intro K fr H;simp only[aM,ho];rfl
  rw[he]at h;split at h
  ·rename_i s k hr;refine AC (λs' k' hh=>by cases hh;exact(zW hc hx hr).1) h λf2 h2 K' hS _ hK=>?_
   rw[he,qS hS hc hx,hr];exact hK
  ·rename_i hr;obtain⟨U,h1,h2,h3,h4⟩:=Nu hW hs hc (xs:=[x]) (by rw[ho];rfl) h;refine⟨U,h1,h2,h3,λf2 h2 K' hS hL hK=>?_⟩;rw[he,qS hS hc hx];have:=h4 f2 h2 K' hS hL hK;split
   ·rename_i s k gX;exact absurd gX (hr s k)
   ·exact this
 |assign x=>
  have hx:∀t,t∈dV x->t∈e.sl:=hW.of (by simp[ho,Op.operands])
  have he:∀K fr H,aM P nt o K fr H=match bM fr x with
   |some (.lp s off)=>bB nt K o.dst (.lp s off) fr H
   |_=>dA P nt o K fr H:=by intro K fr H;simp only[aM,ho];rfl
  rw[he]at h;split at h
  ·rename_i s k hr;refine AC (λs' k' hh=>by cases hh;exact(zW hc hx hr).1) h λf2 h2 K' hS _ hK=>?_
   rw[he,qS hS hc hx,hr];exact hK
  ·rename_i hr;obtain⟨U,h1,h2,h3,h4⟩:=Nu hW hs hc (xs:=[x]) (by rw[ho];rfl) h;refine⟨U,h1,h2,h3,λf2 h2 K' hS hL hK=>?_⟩;rw[he,qS hS hc hx];have:=h4 f2 h2 K' hS hL hK;split
   ·rename_i s k gX;exact absurd gX (hr s k)
   ·exact this
 |call c=>
  obtain⟨callee,args,ts⟩:=c;cases callee with
  |value fn=>exact absurd (hW.call (.inl (by rw[ho];rfl))) (by rw[dW.1];decide)
  |builtin b=>
   cases b with
   |append=>have:=dW.2.1;rw[ho]at this;cases this
   |copy=>exact absurd (hW.call (.inl (by rw[ho];rfl))) (by rw[dW.1];decide)
   |_=>exact tf (λK fr H=>by simp only[aM,ho])
  |_=>exact tf (λK fr H=>by simp only[aM,ho])
 |convert s t x=>
  have he:∀K fr H,aM P nt o K fr H=(dA P nt o K fr H\/((tO P s=Z/\dU P t=Z/\o.dst.isSome=Z)/\∃l ns,FB fr x=J (l,ns.map (Value.int .u8))/\bB nt K o.dst (.v (.string (xQ ns))) fr H)):=by intro K fr H;simp only[aM,ho]
  rw[he]at h;rcases h with h|⟨h1,l,ns,h2,h3⟩
  ·obtain⟨U,h1,h2,h3,h4⟩:=Nu hW hs hc (xs:=[x]) (by rw[ho];rfl) h;refine⟨U,h1,h2,h3,λf2 h2 K' hS hL hK=>?_⟩;rw[he];exact .inl (h4 f2 h2 K' hS hL hK)
  ·exfalso;cases x with
   |tmp u=>
    simp only[FB]at h2;cases hf:fr u with
    |ls len es cells=>exact yM hW hc dW.1 dW.2.1 u (hW.of (x:=.tmp u) (by simp[ho,Op.operands]) u (by simp[dV])) _ _ _ hf
    |_=>rw[hf]at h2;cases h2
   |_=>cases h2
 |_=>exact tf (λK fr H=>by simp only[aM,ho])
theorem zzz(h:na P nt pre o K fr H):BI P nt e o fr H K (na P nt pre o):=by
 have hy:∀{f:FR}(_:pQ e f fr) j b,o.guard=J (j,b)->ou f pre j=ou fr pre j:=by
  intro f hS j b hg;unfold ou;cases hp:pre[j]? with
  |none=>rfl
  |some d=>
   cases d with
   |none=>rfl
   |some d=>
    simp only;rw[hS.s d (hW.sl d (yz _ (by simp[TV,hg,hp])))]
 unfold na at h;cases hg:o.guard with
 |none=>
  rw[hg]at h;obtain⟨U,h1,h2,h3,h4⟩:=ZM hW hs hc h;refine⟨U,h1,h2,h3,λf2 h2 K' hS hL hK=>?_⟩;unfold na;rw[hg];exact h4 f2 h2 K' hS hL hK
 |some p=>
  obtain⟨j,b⟩:=p;rw[hg]at h;simp only at h;cases hv:ou fr pre j with
  |none=>rw[hv]at h;cases h
  |some y=>
   rw[hv]at h;simp only at h;split at h
   ·rename_i e1;obtain⟨U,h1,h2,h3,h4⟩:=ZM hW hs hc h;refine⟨U,h1,h2,h3,λf2 h2 K' hS hL hK=>?_⟩;unfold na;rw[hg];simp only;rw[hy hS j b hg,hv];simp only;rw[aB e1];exact h4 f2 h2 K' hS hL hK
   ·rename_i e1;refine AC (λs k hh=>by cases hh) h λf2 h2 K' hS _ hK=>?_
    unfold na;rw[hg];simp only;rw[hy hS j b hg,hv];simp only;rw[az e1];exact hK
end
theorem Px{xs ys:List Nat}(h:IM xs ys=Z):∀t,t∈xs->t∉ys:=by
 intro t ht hy;simp only[IM,bm]at h;have:=h t ht;simp[hy]at this
section
variable {P:Program}{nt:Nat}{pre:List (Option Tmp)}{K:FR->AH->Prop}{fr:FR}{H:AH}
theorem zsS{e:DE}{o:Oper}{K K2:FR->AH->Prop}(hk:∀fr H,K fr H->K2 fr H){fr:FR}{H:AH}(h:um P nt pre e o K fr H):um P nt pre e o K2 fr H:=
 ⟨h.1,T2 (λfr H h'=>⟨h'.1,hk fr H h'.2⟩) h.2⟩
theorem zyC:∀{l:List (DE×Oper)}{K K2:FR->AH->Prop}(_:∀fr H,K fr H->K2 fr H) {fr:FR}{H:AH},iz P nt pre l K fr H->iz P nt pre l K2 fr H:=by
 intro l;induction l with
 |nil=>intro K K2 hk fr H h;exact hk _ _ h
 |cons p l ih=>intro K K2 hk fr H h;exact zsS (λ_ _ h'=>ih hk h') h
theorem swap{x y:DE}{p q:Oper}(wx:WF pre x p)(wy:WF pre y q)(hp:F1 x p y q=Z)(h:um P nt pre x p (um P nt pre y q K) fr H):um P nt pre y q (um P nt pre x p K) fr H:=by
 simp only[F1,bI]at hp;obtain⟨⟨⟨⟨⟨h1,h2⟩,h3⟩,h4⟩,h5⟩,h6w⟩:=hp;have dW:=TY wx h1 h.1;have d1:=Px h2;have d2:=Px h3;simp only[jY,not_or]at d1 d2
 obtain⟨U,hd,FZ,⟨Yn,hy⟩,dL⟩:BI P nt x p fr H (um P nt pre y q K) (na P nt pre p):=by
  refine zzz wx h1 h.1 ?_;exact T2 (λ_ _ hh=>hh.2) h.2
 have hA:Tw U y q:=by
  refine⟨λt ht=>?_,λs hs=>?_,λt ht=>?_,λd s k hu hs=>(d2 s hs).2 (FZ d s k hu)⟩
  ·rw[hd];intro hh;exact(d1 t hh).1.1 ht
  ·rw[hd];intro hh;exact(d1 s hh).1.2 hs
  ·rw[hd];intro hh;exact(d1 t hh).2 ht
 have hS:pQ y (U.bA fr) fr:=zBp hA.sl hA.rg Yn
 have a0l:jT y fr=Z:=by
  rw[<-XV hS wy.Xm];exact Yn
 refine⟨a0l,?_⟩;refine T2 ?_ (zA1 hA wy hS a0l hy);rintro f h' ⟨⟨hE,hK⟩,hP⟩;refine⟨hE,?_⟩
 have UR:pQ x f fr:=by
  have dH:∀t,t∈x.sl\/t∈x.rg->sn q.op=Z->t∉y.rg:=by
   intro t ht hs hr;simp only[hs,wd,a0s]at h5;have:=Px h5 t hr;simp only[jY,not_or]at this;rcases ht with ht|ht
   ·exact this.1 ht
   ·exact this.2 ht
  refine⟨λt ht=>?_,λs hs cs=>?_⟩
  ·refine hP.s t (λhh=>(d2 t hh).1 ht) (dH t (.inl ht)) (yM wx h.1 dW.1 dW.2.1 t ht) ?_;intro d k hdq hf;have hk:=h.1;simp only[jT,bI]at hk;have hk:=FA hk.1 t ht;rw[hf]at hk;exact(d2 d hdq).2 (NL hk)
  ·exact hP.r s (λhh=>(d2 s hh).2 hs) (dH s (.inr hs)) cs
 have hL:Cc p.op=Z->x.rg=[]->ft H h':=by
  intro hl hr;simp only[hl,hr,List.isEmpty_nil,Uk,wd,a0s]at h6w;simp only[hl,hr,List.isEmpty_nil,Uk,wd,a0s,bI,qd,tZ]at h4;cases Ph:y.ext with
  |true=>exact hE (by simp only[DE.ex,Ph,h6w,Uk])
  |false=>
   rw [hP.h Ph h4.1 λhs => by rcases h4.2 with(h6|h6)|h6
                              ·rw[hs]at h6;cases h6
                              ·intro h7;rw[h7]at h6;cases h6
                              ·rw[Ph]at h6;cases h6]
   exact .refl H
 have:=dL f h' (λai H'=>(x.ex=Z->ft h' H')/\K ai H') UR hL ⟨λhh=>(by simp only[DE.ex,dW.1,a0t]at hh;cases hh),hK⟩;refine⟨?_,this⟩;rw[XV UR wx.Xm];exact h.1
end
def SR(bs:List Nat)(o:Oper):Nat:=o.after.toList.foldl (λs e=>if Region.binds .any e then s|||2^e.on|||bs.getD e.on 0 else s) 0
def Hm:List Oper->List Nat->List Nat
 |[],bs=>bs
 |o::r,bs=>Hm r (bs++[SR bs o])
def Lt(bs:List Nat)(xs:List (Nat×Nat))(j:Nat)(o:Oper):Nat:=xs.foldl (λs p=>if p.2=j then s|||2^p.1|||bs.getD p.1 0 else s) (SR bs o)
def Q6(ops:List Oper)(xs:List (Nat×Nat)):Nat->List Nat->List Nat
 |0,bs=>bs
 |n+1,bs=>Q6 ops xs n ((List.range ops.length).map λj=>Lt bs xs j (ops.getD j default))
def Ct(ops:List Oper)(bs:List Nat):List DE->Bool
 |[]=>Z
 |x::r=>(r.all λy=>y.i !=x.i&&((bs.getD y.i 0).testBit x.i||F1 x (ops.getD x.i default) y (ops.getD y.i default)))&&Ct ops bs r
def HV(D:List DE)(ops:List Oper)(xs:List (Nat×Nat):=[]):Bool:=
 let bs:=if xs.isEmpty then Hm ops []else Q6 ops xs 6 (Hm ops [])
 let pre:=ops.map (·.dst)
 (D.length==ops.length)&&(xs.all λp=>Nat.blt p.1 ops.length&&p.1 !=p.2)&&
 ((List.range ops.length).all λj=>bs.getD j 0==Lt bs xs j (ops.getD j default)&&((ops.getD j default).after.toList.all λe=> !Region.binds .any e||Nat.blt e.on j)&&(D.map (·.i)).contains j)&&
 (D.all λx=>Nat.blt x.i ops.length&&PS pre x (ops.getD x.i default))&&Ct ops bs D
def BQ(run:List DE->Prop)(ops:List Oper):Nat->List (Nat×Nat)->Prop
 |0,xs=>∃D:List DE,HV D ops xs=Z/\run D
 |n+1,xs=>∃a b,a≠b/\BQ run ops n ((a,b)::xs)/\BQ run ops n ((b,a)::xs)
theorem Qv{run Yw:List DE->Prop}{ops:List Oper}(hk:∀D,run D->Yw D):∀{n:Nat}{xs:List (Nat×Nat)},BQ run ops n xs->BQ Yw ops n xs:=by
 intro n;induction n with
 |zero=>intro xs ⟨D,h,h'⟩;exact⟨D,h,hk D h'⟩
 |succ n ih=>intro xs ⟨a,b,h,h1,h2⟩;exact⟨a,b,h,ih h1,ih h2⟩
def Nf(P:Program)(nt:Nat)(ops:Array Oper)(K:FR->AH->Prop)(fr:FR)(H:AH):Prop:=
 P.follows .mixedOrders=Z/\∃n,BQ (λD=>iz P nt (ops.toList.map (·.dst)) (D.map λx=>(x,ops.toList.getD x.i default)) K fr H) ops.toList n []
theorem zvZ{P:Program}{nt:Nat}{ops:Array Oper}{K K2:FR->AH->Prop}(hk:∀fr H,K fr H->K2 fr H){fr:FR}{H:AH}(h:Nf P nt ops K fr H):Nf P nt ops K2 fr H:=
 let⟨h0,n,h1⟩:=h;⟨h0,n,Qv (λ_=>zyC hk) h1⟩
theorem zAS{bs:List Nat}{o:Oper}{x:Nat}(h:(SR bs o).testBit x=Z):∃e,e∈o.after.toList/\Region.binds .any e=Z/\(e.on=x\/(bs.getD e.on 0).testBit x=Z):=by
 have key:∀(l:List Edge) (s:Nat),(l.foldl (λs e=>if Region.binds .any e then s|||2^e.on|||bs.getD e.on 0 else s) s).testBit x=Z->s.testBit x=Z\/∃e,e∈l/\Region.binds .any e=Z/\(e.on=x\/(bs.getD e.on 0).testBit x=Z):=by
  intro l;induction l with
  |nil=>intro s h;exact .inl h
  |cons e l ih=>
   intro s h;simp only[Oy]at h;rcases ih _ h with h1|⟨e',h1,h2⟩
   ·split at h1
    ·rename_i hb;rw[Ul,Ul]at h1;simp only[tZ]at h1;rcases h1 with(h1|h1)|h1
     ·exact .inl h1
     ·rw[a2d]at h1;exact .inr ⟨e,qc ..,hb,.inl (by simpa using h1)⟩
     ·exact .inr ⟨e,qc ..,hb,.inr h1⟩
    ·exact .inl h1
   ·exact .inr ⟨e',nV _ h1,h2⟩
 rcases key _ _ h with h|h
 ·simp at h
 ·exact h
section
variable {P:Program}{nt:Nat}{pre:List (Option Tmp)}{K:FR->AH->Prop}
theorem zLH{q:DE×Oper}(wq:WF pre q.1 q.2){B:List (DE×Oper)}:∀{A:List (DE×Oper)}{fr:FR}{H:AH}(_:∀p,p∈A->WF pre p.1 p.2/\F1 p.1 p.2 q.1 q.2=Z) (_:iz P nt pre (A++q::B) K fr H),iz P nt pre (q::(A++B)) K fr H:=by
 intro A;induction A with
 |nil=>intro fr H _ h;exact h
 |cons p A ih=>
  intro fr H hp h;have h1:um P nt pre p.1 p.2 (iz P nt pre (q::(A++B)) K) fr H:=zsS (λfr H hh=>ih (λp Qx=>hp p (nV _ Qx)) hh) h;have h2:=hp p (qc ..);exact swap h2.1 wq h2.2 h1
theorem zzD{bs:List Nat}{xs:List (Nat×Nat)}{j:Nat}{o:Oper}{x:Nat}(h:(Lt bs xs j o).testBit x=Z):(∃e,e∈o.after.toList/\Region.binds .any e=Z/\(e.on=x\/(bs.getD e.on 0).testBit x=Z))\/∃p,p∈xs/\p.2=j/\(p.1=x\/(bs.getD p.1 0).testBit x=Z):=by
 have key:∀(l:List (Nat×Nat)) (s:Nat),(l.foldl (λs p=>if p.2=j then s|||2^p.1|||bs.getD p.1 0 else s) s).testBit x=Z->s.testBit x=Z\/∃p,p∈l/\p.2=j/\(p.1=x\/(bs.getD p.1 0).testBit x=Z):=by
  intro l;induction l with
  |nil=>intro s h;exact .inl h
  |cons e l ih=>
   intro s h;simp only[Oy]at h;rcases ih _ h with h1|⟨e',h1,h2⟩
   ·split at h1
    ·rename_i hb;rw[Ul,Ul]at h1;simp only[tZ]at h1;rcases h1 with(h1|h1)|h1
     ·exact .inl h1
     ·rw[a2d]at h1;exact .inr ⟨e,qc ..,hb,.inl (by simpa using h1)⟩
     ·exact .inr ⟨e,qc ..,hb,.inr h1⟩
    ·exact .inl h1
   ·exact .inr ⟨e',nV _ h1,h2⟩
 rcases key _ _ h with h|h
 ·exact .inl (zAS h)
 ·exact .inr h
theorem zyl{ops:List Oper}{bs:List Nat}{x:DE}{B:List DE}:∀{A:List DE},Ct ops bs (A++x::B)=Z->
 (∀y,y∈A->x.i≠y.i/\((bs.getD x.i 0).testBit y.i=Z\/F1 y (ops.getD y.i default) x (ops.getD x.i default)=Z))/\(∀y,y∈B->y.i≠x.i)/\Ct ops bs (A++B)=Z:=by
 intro A;induction A with
 |nil=>
  intro h;simp only[mM,Ct,bI,bm]at h;refine⟨λ_ hy=>(by cases hy),λy hy=>?_,h.2⟩;have:=(h.1 y hy).1;simpa using this
 |cons a A ih=>
  intro h;simp only[t5,Ct,bI,bm,tZ]at h⊢;obtain⟨i1,i2,i3⟩:=ih h.2;refine⟨λy hy=>?_,i2,λy hy=>?_,i3⟩
  ·rcases fK.1 hy with rfl|hy
   ·have:=h.1 x (by simp);exact⟨by simpa using this.1,this.2⟩
   ·exact i1 y hy
  ·refine h.1 y ?_;rcases jY.1 hy with hy|hy
   ·exact sH _ hy
   ·exact yz _ (nV _ hy)
end
structure Inv (ops:List Oper) (bs:List Nat) (dh:Array Bool) (L:List DE):Prop where
 sz:dh.size=ops.length
 a1N:Ct ops bs L=Z
 wf:∀x,x∈L->x.i<ops.length/\WF (ops.map (·.dst)) x (ops.getD x.i default)
 cov:∀i,i<ops.length->dh.getD i Z=Z\/∃x,x∈L/\x.i=i
 un:∀x,x∈L->dh.getD x.i Z=aa
 cl:∀j,j<ops.length->dh.getD j Z=Z->∀x,(bs.getD j 0).testBit x=Z->dh.getD x aa=Z
theorem Ns(a:Array Bool)(d t:Nat)(u:Bool)(hd:d<a.size):(a.setIfInBounds d Z).getD t u=if t=d then Z else a.getD t u:=by
 simp only[v8,a0m];by_cases h:d=t
 ·subst h;simp[hd]
 ·rw[az h,az (λe=>h e.symm)]
section
variable {c:q9}{P:Program}{K:FR->AH->Prop}{Q:Exit->Act->World->Prop}{ops:Array Oper}{bs:List Nat}
def Iz(ops:Array Oper):Nat->Array Bool->List Nat->Prop
 |0,_,s=>s=[]
 |n+1,dh,s=>(s=[]/\Region.ready .any ops dh=[])\/∃i s',s=i::s'/\i∈Region.ready .any ops dh/\Iz ops n (dh.setIfInBounds i Z) s'
theorem zCE:∀(ir t:Nat) (dh:Array Bool),Iz ops ir dh (Region.linearise.go .any ops ir t dh []):=by
 intro ir;induction ir with
 |zero=>intro t dh;rfl
 |succ ir ih=>
  intro t dh;simp only[Region.linearise.go]
  change Iz ops (ir+1) dh (match(Region.ready .any ops dh)[t%(Region.ready .any ops dh).length]? with
   |some i=>Region.linearise.go .any ops ir (t/(Region.ready .any ops dh).length) (dh.setIfInBounds i Z) [i]
   |none=>[].reverse)
  cases hi:(Region.ready .any ops dh)[t%(Region.ready .any ops dh).length]? with
  |none=>
   refine .inl ⟨rfl,?_⟩;cases hr:Region.ready .any ops dh with
   |nil=>rfl
   |cons x xs=>
    rw[hr]at hi;have hlt:t%(x::xs).length<(x::xs).length:=mN _ (by simp);simp at hi;simp at hlt;omega
  |some i=>
   simp only[];rw[linearise_go_acc,List.reverse_singleton,a0u];exact .inr ⟨i,_,rfl,eo hi,ih _ _⟩
def bef(a b:Nat):List Nat->Bool
 |[]=>Z
 |i::s=>if i=a then Z else if i=b then aa else bef a b s
theorem zDh{a b:Nat}(h:a≠b):∀s,bef a b s=Z\/bef b a s=Z:=by
 intro s;induction s with
 |nil=>exact .inl rfl
 |cons i s ih=>
  simp only[bef];by_cases h1:i=a
  ·exact .inl (aB h1)
  ·by_cases h2:i=b
   ·exact .inr (aB h2)
   ·rw[az h1,az h2,az h2,az h1];exact ih
theorem zup{xs:List (Nat×Nat)}(ic:∀p,p∈xs->p.1<ops.toList.length/\p.1≠p.2)(mZ:∀j,j<ops.toList.length->bs.getD j 0=Lt bs xs j (ops.toList.getD j default))(hlt:∀j,j<ops.toList.length->∀e,e∈(ops.toList.getD j default).after.toList->Region.binds .any e=Z->e.on<j)
(hn:∀m' ai H' a' w',K ai H'->aX c m' ai H' a' w'->Q .normal a' w'):∀(ir:Nat) {s:List Nat}{dh:Array Bool}{L:List DE}{m:Mu}{fr:FR}{H:AH}{a:Act}{w:World},
 L.length=ir->Iz ops ir dh s->(∀p,p∈xs->dh.getD p.1 Z=Z\/bef p.1 p.2 s=Z)->Inv ops.toList bs dh L->iz P c.nt (ops.toList.map (·.dst)) (L.map λx=>(x,ops.toList.getD x.i default)) K fr H->aX c m fr H a w->wpOps P ops Q s a w:=by
 intro ir
 have j9:∀{dh:Array Bool}{i:Nat},i∈Region.ready .any ops dh->i<ops.toList.length/\dh.getD i Z=aa/\∀e,e∈(ops.toList.getD i default).after.toList->Region.binds .any e=Z->dh.getD e.on aa=Z:=by
  intro dh i hi;simp only[Region.ready,List.mem_filter,kp,bI,qd]at hi;obtain⟨h1,h2,h3⟩:=hi;refine⟨by simpa using h1,h2,λe he hb=>?_⟩;have h4:ops[i]? =J ops[i]:=Da h1;rw[h4]at h3;simp only[l9,v9]at h3;have h5:ops.toList.getD i default=ops[i]:=by simp[List.getD,h1]
  rw[h5]at he;rw[Array.all_eq_true']at h3;have:=h3 e (by simpa using he);simpa[hb]using this
 have a1t:∀{dh:Array Bool}{i:Nat},i<ops.toList.length->dh.getD i Z=aa->(∀e,e∈(ops.toList.getD i default).after.toList->Region.binds .any e=Z->dh.getD e.on aa=Z)->i∈Region.ready .any ops dh:=by
  intro dh i h1 h2 h3;have jO:i<ops.size:=by simpa using h1
  simp only[Region.ready,List.mem_filter,kp,bI,qd];refine⟨jO,h2,?_⟩;have h4:ops[i]? =J ops[i]:=Da jO;have h5:ops.toList.getD i default=ops[i]:=by simp[List.getD,jO]
  rw[h4];simp only[l9,v9];rw[Array.all_eq_true'];intro e he;rw[h5]at h3;cases hb:Region.binds .any e with
  |false=>rfl
  |true=>simp[h3 e (by simpa using he) hb]
 induction ir with
 |zero=>
  intro s dh L m fr H a w hl hs hx hI hd r;have:L=[]:=mL hl;subst this;cases hs;exact hn m fr H a w hd r
 |succ ir ih=>
  intro s dh L m fr H a w hl hs MP hI hd r;rcases hs with⟨_,Tj⟩|⟨i,s,rfl,hi,mu⟩
  ·exfalso
   have ph:∀i,i<ops.toList.length->dh.getD i Z=Z:=by
    intro i;induction i using Nat.strongRecOn with
    |ind i ihi=>
     intro hi;by_cases hc:dh.getD i Z=Z
     ·exact hc
     ·exfalso
      have:i∈Region.ready .any ops dh:=by
       refine a1t hi (by simpa using hc) λe he hb=>?_
       have h1:=hlt i hi e he hb;have h2:=ihi e.on h1 (by omega);have h3:e.on<dh.size:=by rw[hI.sz];omega
       simp only[v8,Da h3,v9]at h2⊢;exact h2
      rw[Tj]at this;cases this
   cases L with
   |nil=>cases hl
   |cons x L=>
    have h1:=hI.un x (qc ..);rw[ph x.i (hI.wf x (qc ..)).1]at h1;cases h1
  ·obtain⟨h1,h2,h3⟩:=j9 hi
   obtain⟨x,hx,Ca⟩:∃x,x∈L/\x.i=i:=by
    rcases hI.cov i h1 with h|h
    ·rw[h2]at h;cases h
    ·exact h
   obtain⟨A,B,rfl⟩:=List.append_of_mem hx;subst Ca;obtain⟨p1,p2,p3⟩:=zyl hI.a1N
   have a0f:∀y,(bs.getD x.i 0).testBit y=Z->dh.getD y aa=Z:=by
    intro y hy;rw[mZ _ h1]at hy;rcases zzD hy with⟨e,he,hb,h|h⟩|⟨p,hp,ui,h⟩
    ·rw[<-h];exact h3 e he hb
    ·have a2v:=hlt _ h1 e he hb;refine hI.cl e.on (by omega) ?_ y h;have h4:=h3 e he hb;have h5:e.on<dh.size:=by rw[hI.sz];omega
     simp only[v8,Da h5,v9]at h4⊢;exact h4
    ·have AW:dh.getD p.1 Z=Z:=by
      rcases MP p hp with h4|h4
      ·exact h4
      ·simp only[bef]at h4;rw[az λe=>(ic p hp).2 (e.symm.trans ui.symm),aB ui.symm]at h4;cases h4
     rcases h with h|h
     ·rw[<-h];have h5:p.1<dh.size:=by rw[hI.sz];exact(ic p hp).1
      simp only[v8,Da h5,v9]at AW⊢;exact AW
     ·exact hI.cl p.1 (ic p hp).1 AW y h
   have hA:∀y,y∈A->F1 y (ops.toList.getD y.i default) x (ops.toList.getD x.i default)=Z:=by
    intro y hy;have h5:=hI.un y (sH _ hy);rcases(p1 y hy).2 with h|h
    ·exfalso;have h4:=a0f _ h;have h6:y.i<dh.size:=by rw[hI.sz];exact(hI.wf y (sH _ hy)).1
     simp only[v8,Da h6,v9]at h4 h5;rw[h5]at h4;cases h4
    ·exact h
   have hZ:iz P c.nt (ops.toList.map (·.dst)) ((x,ops.toList.getD x.i default)::((A++B).map λx=>(x,ops.toList.getD x.i default))) K fr H:=by
    rw[l8,jD]at hd;rw[l8];refine zLH (hI.wf x hx).2 ?_ hd;intro p hp;obtain⟨y,hy,rfl⟩:=jE.1 hp;exact⟨(hI.wf y (sH _ hy)).2,hA y hy⟩
   have a1Q:∀p,p∈xs->(dh.setIfInBounds x.i Z).getD p.1 Z=Z\/bef p.1 p.2 s=Z:=by
    intro p hp;have ic:x.i<dh.size:=by rw[hI.sz];exact h1
    rw[Ns _ _ _ _ ic];by_cases ui:p.1=x.i
    ·exact .inl (aB ui)
    ·rw[az ui];rcases MP p hp with h4|h4
     ·exact .inl h4
     ·simp only[bef]at h4;rw[az λe=>ui e.symm]at h4;split at h4
      ·cases h4
      ·exact .inr h4
   have hI':Inv ops.toList bs (dh.setIfInBounds x.i Z) (A++B):=by
    have ic:x.i<dh.size:=by rw[hI.sz];exact h1
    have BR:∀y,y∈A++B->y∈A++x::B/\y.i≠x.i:=by
     intro y hy;rcases jY.1 hy with hy|hy
     ·exact⟨sH _ hy,λe=>(p1 y hy).1 e.symm⟩
     ·exact⟨yz _ (nV _ hy),p2 y hy⟩
    refine⟨by simpa using hI.sz,p3,λy hy=>hI.wf y (BR y hy).1,λi hi'=>?_,λy hy=>?_,λj hj JR y hy=>?_⟩
    ·rw[Ns _ _ _ _ ic];by_cases jb:i=x.i
     ·left;rw[aB jb]
     ·rw[az jb];rcases hI.cov i hi' with h|⟨y,hy,Ez⟩
      ·exact .inl h
      ·right;rcases jY.1 hy with hy|hy
       ·exact⟨y,sH _ hy,Ez⟩
       ·rcases fK.1 hy with rfl|hy
        ·exact absurd Ez.symm jb
        ·exact⟨y,yz _ hy,Ez⟩
    ·rw[Ns _ _ _ _ ic,az (BR y hy).2];exact hI.un y (BR y hy).1
    ·rw[Ns _ _ _ _ ic]at JR⊢;by_cases U5:y=x.i
     ·rw[aB U5]
     ·rw[az U5];by_cases MB:j=x.i
      ·subst MB;exact a0f y hy
      ·rw[az MB]at JR;exact hI.cl j hj JR y hy
   have jO:x.i<ops.size:=by simpa using h1
   have I5:ops[x.i]? =J (ops.toList.getD x.i default):=by
    rw[Da jO];simp[List.getD,jO]
   rw[wpOps_cons];unfold wpOp;rw[I5];simp only
   have hs:=zxv (Q:=Q) (next:=wpOps P ops Q s) hZ.2 r λm' ai H' a' w' hk r'=>
    ih (by simp at hl⊢;omega) mu a1Q hI' hk.2 r'
   split
   ·rename_i hw;rw[aB hw]at hs;exact .inl hs
   ·rename_i hw;rw[az hw]at hs;exact hs
theorem zuD{id:Nat}{m:Mu}{fr:FR}{H:AH}{a:Act}{w:World}(h:Nf P c.nt ops K fr H)(r:aX c m fr H a w)
(hn:∀m' ai H' a' w',K ai H'->aX c m' ai H' a' w'->Q .normal a' w'):(Code.region id ops Z).wp P Q a w:=by
 obtain⟨CA,n,hX⟩:=h;refine wp_region_draw λt=>?_
 have key:∀(s:List Nat),Iz ops ops.size (Array.replicate ops.size aa) s->∀n xs,BQ (λD=>iz P c.nt (ops.toList.map (·.dst)) (D.map λx=>(x,ops.toList.getD x.i default)) K fr H) ops.toList n xs->(∀p,p∈xs->bef p.1 p.2 s=Z)->wpOps P ops Q s a {w with drawn:=w.drawn+1}:=by
  intro s hs n;induction n with
  |zero=>
   rintro xs ⟨D,hD,hd⟩ hx;simp only[HV,bI,bm,kp]at hD;obtain⟨⟨⟨⟨hlen,ic⟩,ph⟩,CZ⟩,a1X⟩:=hD;refine zup (xs:=xs) (bs:=if xs.isEmpty then Hm ops.toList []else Q6 ops.toList xs 6 (Hm ops.toList [])) (λp hp=>⟨a0v (ic p hp).1,by simpa using(ic p hp).2⟩) (λj hj=>?_) (λj hj e he hb=>?_) hn ops.size (L:=D) (by simpa using hlen) hs (λp hp=>.inr (hx p hp)) ?_ hd r.drew
   ·simpa using(ph j hj).1.1
   ·exact by have:=(ph j hj).1.2 e he;rw[hb]at this;simpa using this
   ·refine⟨by simp,a1X,λx hx=>⟨a0v (CZ x hx).1,zGx (CZ x hx).2⟩,λi hi=>?_,λx hx=>?_,λj hj JR=>?_⟩
    ·right;have:=(ph i hi).2;simpa[jE]using this
    ·have h1:x.i<ops.toList.length:=a0v (CZ x hx).1;have jO:x.i<ops.size:=by simpa using h1
     simp[v8,jO]
    ·have jO:j<ops.size:=by simpa using hj
     simp[v8,jO]at JR
  |succ n ih=>
   rintro xs ⟨a,b,nR,h1,h2⟩ hx;rcases zDh nR s with h|h
   ·exact ih _ h1 λp hp=>by
     rcases fK.1 hp with rfl|hp
     ·exact h
     ·exact hx p hp
   ·exact ih _ h2 λp hp=>by
     rcases fK.1 hp with rfl|hp
     ·exact h
     ·exact hx p hp
 unfold Region.schedule;rw[CA,Bool.true_or,aB rfl];exact key _ (zCE _ _ _) n [] hX λp hp=>by cases hp
end
def fc(P:Program)(nt:Nat):Code->(Exit->FR->AH->Prop)->FR->AH->Prop
 | .skip,Q=>Q .normal
 | .region _ ops zd,Q=>if zd=Z then Nf P nt ops (Q .normal)else nk P nt (ops.toList.map (·.dst)) ops.toList (Q .normal)
 | .seq x y,Q=>fc P nt x (Ep (fc P nt y Q) Q)
 | .cond c t e,Q=>λfr H=>match be fr c with
  |some (.bool b)=>if b=Z then fc P nt t Q fr H else fc P nt e Q fr H
  |_=>False
 | .block id b,Q=>fc P nt b (Io id Q)
 | .loop b,Q=>λfr H=>∃n,X7 (fc P nt b) Q n fr H
 | .exit id,Q=>Q (.exit id)
 | .ret,Q=>Q .ret
 |_,_=>λ_ _=>False
def rV(P:Program)(fr:FR):ResultVar->Option Value
 | .tmp t=>match fr t with
  | .v x=>J x
  |_=>ae
 | .cell t ty=>match fr t with
  | .loc cells=>mX P ty (J cells)
  |_=>ae
def pB(P:Program)(fr:FR):List ResultVar->Option (List Value)
 |[]=>J []
 |x::xs=>match rV P fr x,pB P fr xs with
  |some v,J vs=>J (v::vs)
  |_,_=>ae
def xc:List Value->Value
 |[v]=>v
 |vs=>.tuple vs.toArray
inductive It where
 |code (c:Code)
 |ops (pre:List (Option Tmp)) (l:List Oper)
 |iz (pre:List (Option Tmp)) (l:List (DE×Oper))
 |chk (p:AH->Prop)
 |bq (id:Nat)
def uV(P:Program)(nt:Nat):List It->(Exit->FR->AH->Prop)->Exit->FR->AH->Prop
 |[],Q,e=>Q e
 |it::k,Q,e=>match e with
  | .normal=>match it with
   | .code c=>fc P nt c (uV P nt k Q)
   | .ops pre l=>nk P nt pre l (uV P nt k Q .normal)
   | .iz pre l=>iz P nt pre l (uV P nt k Q .normal)
   | .chk p=>λfr H=>p H/\uV P nt k Q .normal fr H
   | .bq _=>uV P nt k Q .normal
  | .exit id=>match it with
   | .bq i=>if id=i then uV P nt k Q .normal else uV P nt k Q (.exit id)
   |_=>uV P nt k Q (.exit id)
  |e=>uV P nt k Q e
def aw(P:Program)(nt:Nat)(k:List It)(Q:Exit->FR->AH->Prop)(fr:FR)(H:AH):Prop:=uV P nt k Q .normal fr H
def Ft(P:Program)(rs:Array ResultVar)(R:Value->AH->Prop):Exit->FR->AH->Prop
 | .normal,fr,H| .ret,fr,H=>match pB P fr rs.toList with
  |some vs=>R (xc vs) H
  |none=>False
 |_,_,_=>False
end Go.Am
