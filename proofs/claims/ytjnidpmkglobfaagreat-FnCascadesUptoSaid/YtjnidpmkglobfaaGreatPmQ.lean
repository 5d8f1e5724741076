import Derived.Test.YtjnidpmkglobfaaGreatPmP
open Bool renaming false→Z,true→O
open Option renaming none→aa,some→J
set_option linter.defProp false
namespace Go.Pm
open Go.Am
def aW.Dm(c:aW):aW:={c with hp:=[]}
def Rt(P:Program)(c:aW)(o:Oper)(K:ae->Prop)(pf:ae):List Operand->Array TypeId->Prop
 |[x],⟨[t]⟩=>if eS P t=O then lO P c o K pf else Er P c t x o.dst K pf
 |_,_=>False
def Uy(P:Program)(c:aW)(d:Option Tmp)(K:ae->Prop)(pf:ae):List Operand->Array TypeId->Prop
 |[s,x],⟨[t,a]⟩=>if t=a then Gv P c t s x d K pf else HU P c t a s x d K pf
 |_,_=>False
def n0(P:Program)(c:aW)(o:Oper)(K:ae->Prop)(pf:ae):Prop:=
 match o.op with
 | .load t a=>FW P c t a o.dst K pf
 | .store t a x=>Gc P c t a x o.dst K pf
 | .fieldAddr s x f=>zwO P c s x f o.dst K pf
 | .indexAddr t x i=>ED P c t x i o.dst K pf
 | .nilCheck x=>zCm c x o.dst K pf
 | .alloc e=>Ht P c e o.dst K pf
 | .box e x=>FQ P c e x o.dst K pf
 | .buildSlice t n g=>E5 P c t n g.toList o.dst K pf
 | .build t g=>HC P c t g.toList o.dst K pf
 | .pick b x y=>Hj c b x y o.dst K pf
 | .makeSlice t l j=>HD P c t l j o.dst K pf
 | .makeFunc k q r=>Fv c k q.toList r.toList o.dst K pf
 | .move x=>uo (dj P o.type) c x o.dst K pf
 | .assign x=>F3 (dj P o.type) c x o.dst K pf
 | .extract x i=>Gn c x i o.dst K pf
 | .slice t x l h m=>if eS P t=O then lO P c o K pf else GP P c t x l h m o.dst K pf
 | .call ⟨.builtin .len,args,d⟩=>Rt P c o K pf args.toList d
 | .call ⟨.builtin .append,args,d⟩=>Uy P c o.dst K pf args.toList d
 | .call ⟨.builtin .clear,args,d⟩=>OG P c o.dst K pf args.toList d
 | .call ⟨.value f,args,d⟩=>ZN P c f args.toList d.toList o.dst K pf
 | .convert s t x=>if eS P t=O then(c.hp≠[]\/JL pf x=O)/\yn P c s t x o.dst K pf else lO P c o K pf
 | .call ⟨.builtin .min,_,_⟩| .call ⟨.builtin .max,_,_⟩| .unOp .. | .index .. =>lO P c o K pf
 | .binOp p t x y _=>if wc y=O then c.hp≠[]/\Dw P c p t x o.dst K pf else lO P c o K pf
 |_=>False
def LP:PF->Option (Option Bool)
 | .v (.bool b)=>J (J b)
 | .skip=>J aa
 |_=>aa
def Ca(pf:ae):Option (Option Tmp)->Option (Option Bool)
 |some (J d)=>LP (pf d)
 |_=>aa
def v5(c:aW)(d:Option Tmp)(K:ae->Prop)(pf:ae):Prop:=
 match d with
 |some d=>ia c d .skip=O/\K (pf.put d .skip)
 |none=>K pf
def l6(c:aW)(b:Bool)(d:Option Tmp)(a:Prop)(K:ae->Prop)(pf:ae):Option (Option Bool)->Prop
 |some y=>if y=J b then a else v5 c d K pf
 |none=>False
def BK(P:Program)(c:aW)(pre:List (Option Tmp))(o:Oper)(K:ae->Prop)(pf:ae):Prop:=
 match o.guard with
 |none=>n0 P c o K pf
 |some (j,b)=>l6 c b o.dst (n0 P c o K pf) K pf (Ca pf pre[j]?)
def CS(P:Program)(c:aW)(pre:List (Option Tmp)):List Oper->(ae->Prop)->ae->Prop
 |[],K,pf=>K pf
 |o::r,K,pf=>BK P c pre o (CS P c pre r K) pf
def MB:PF->Bool
 | .v x=> !dv x
 |_=>Z
def Oy:Option PV->Bool
 |some x=> !dv x
 |none=>Z
def lQ(pf:ae)(rg:List Nat)(a:Bool)(t:Nat):PF->Bool
 | .v x=> !dv x
 | .skip=>O
 | .ls _ _=>a
 | .bl _=>rg.contains t
 | .pt s p _ _=>rg.contains s||(MB (pf s)|| !p.isEmpty)
 | .rf s p=>Oy (cj pf s p)
 | .rv _ _ _ _| .ra _ _ _ _ _| .cl _ _ _=>O
 | .as b _ _ _ _ _=>a||b
def J6:PF->Bool
 | .bl _=>O
 |_=>Z
def CQ(pf:ae):PF->Bool
 | .bl _| .skip=>O
 | .pt s [] _ _=>J6 (pf s)
 |_=>Z
def C6(pf:ae):Option Nat->Bool
 |some t=>CQ pf (pf t)
 |none=>O
def xX(pf:ae)(rg:List Nat)(a:Bool):List Nat->Bool
 |[]=>O
 |t::r=>lQ pf rg a t (pf t)&&xX pf rg a r
def gV:Op->Bool
 | .store .. =>Z
 | .call ⟨.builtin .append,_,_⟩=>Z
 | .call ⟨.builtin .copy,_,_⟩=>Z
 |_=>O
def sJ(P:Program)(c:aW)(ext:Bool)(o:Oper)(K:ae->Prop)(pf:ae):Prop:=
 match o.op with
 | .call ⟨.value f,args,a⟩=>if ext=O then Kz P c f args.toList a.toList o.dst K pf (List.replicate args.toList.length .sh)else n0 P c.Dm o K pf
 |_=>(ext=O->gV o.op=O)/\n0 P c.Dm o K pf
def H4(P:Program)(c:aW)(pre:List (Option Tmp))(ext:Bool)(o:Oper)(K:ae->Prop)(pf:ae):Prop:=
 match o.guard with
 |none=>sJ P c ext o K pf
 |some (j,b)=>l6 c b o.dst (sJ P c ext o K pf) K pf (Ca pf pre[j]?)
def Gu(P:Program)(c:aW)(pre:List (Option Tmp))(e:DE)(o:Oper)(K:ae->Prop)(pf:ae):Prop:=
 (xX pf e.rg e.ls e.sl&&C6 pf e.mr)=O/\H4 P c pre e.ex o K pf
def F0(P:Program)(c:aW)(pre:List (Option Tmp)):List (DE×Oper)->(ae->Prop)->ae->Prop
 |[],K,pf=>K pf
 |(e,o)::r,K,pf=>Gu P c pre e o (F0 P c pre r K) pf
inductive oQ:ae->ae->Prop where
 |w {bU pf:ae}(h:∀t,bU t=pf t\/bU t=jP):oQ bU pf
 |f {bU pf:ae}(s:Nat) (x:PV) (hs:pf s=.v x) (hx:dv x=Z) (h:oQ bU ((pf.bV s (.v (drop x))).kill s 0)):oQ bU pf
 |g {bU pf aR:ae}(s:Nat) (p:aB) (x:PV) (hp:p≠[]) (hs:cj pf s p=J x) (hx:dv x=Z) (h1:iL pf s p (drop x)=J aR) (h:oQ bU aR):oQ bU pf
def au.wk{S:Nat}{T:List (Nat×Value)}{R:Env}{Y:FR}:∀{k pf:ae},oQ k pf->∀{E:Env},au S T R E pf Y->∃X,au S T R X k Y/\X.H=E.H:=by
 intro k pf h;induction h with
 |w h=>intro E r;exact⟨E,r.Xi h,rfl⟩
 |f s x b n _ ih=>
  intro E r;rename_i pf _;have t:=oY n
  have m:s<S:=by
   rcases dS s S with d|d
   ·exact d
   ·have:=r.hi s d;rw[b]at this;cases this;exact absurd rfl t
  obtain⟨v,u,e,y⟩:=r.Fi (s:=s) (p:=[]) m (by simp[cj,b,fS,iV]) t (.inr ⟨x,b⟩) rfl;obtain⟨X,i,j⟩:=ih e;exact⟨X,i,j⟩
 |g s p x q b n d _ ih=>
  intro E r
  have m:s<S:=by
   rcases dS s S with l|l
   ·exact l
   ·have:=r.hi s l;cases p with
    |nil=>exact absurd rfl q
    |cons a p=>rw[cj,this]at b;cases b
  obtain⟨v,u,e,y⟩:=r.Fi m b (oY n) (.inl q) d;obtain⟨X,i,j⟩:=ih e;exact⟨X,i,j⟩
def Ed(b:(Exit->ae->Prop)->ae->Prop)(Q:Exit->ae->Prop):Nat->ae->Prop
 |0,_=>False
 |n+1,pf=>∃a,oQ a pf/\b (λe d=>match e with| .normal=>Ed b Q n d|e=>Q e d) a
def XV(K:ae->Prop)(Q:Exit->ae->Prop):Exit->ae->Prop
 | .normal,pf=>K pf
 |e,pf=>Q e pf
def Jd(id:Nat)(Q:Exit->ae->Prop):Exit->ae->Prop
 | .exit i,pf=>if i=id then Q .normal pf else Q (.exit i) pf
 |e,pf=>Q e pf
def Tp(b:Option Value)(x y:Prop):Prop:=
 match b with
 |some (.bool b)=>if b=O then x else y
 |_=>False
def gG(P:Program)(c:aW):Code->(Exit->ae->Prop)->ae->Prop
 | .skip,Q=>Q .normal
 | .region _ d e,Q=>λpf=>if e=O then
  P.follows .mixedOrders=O/\∃n,Dr (λD=>F0 P c (d.toList.map (·.dst)) (D.map λx=>(x,d.toList.getD x.i default)) (Q .normal) pf) d.toList n []
  else CS P c (d.toList.map (·.dst)) d.toList (Q .normal) pf
 | .seq x y,Q=>gG P c x (XV (λpf=>∃a,oQ a pf/\gG P c y Q a) Q)
 | .cond b x y,Q=>λpf=>∃a,oQ a pf/\Tp (cr a b) (gG P c x Q a) (gG P c y Q a)
 | .block id b,Q=>gG P c b (Jd id Q)
 | .loop b,Q=>λpf=>∃n,Ed (gG P c b) Q n pf
 | .exit id,Q=>Q (.exit id)
 | .ret,Q=>Q .ret
 |_,_=>λ_=>False
def EM(pf:ae)(t:Nat):PF->Option (Bool×Nat)->Option (PV×ae)
 | .bl a,J (O,b)=>if b=a.length then J (.agg a,(pf.bV t jP).kill t 0)else aa
 | .bl (x::_),J (Z,_)=>J (x,(pf.bV t jP).kill t 0)
 |_,_=>aa
def De(P:Program)(pf:ae):ResultVar->Option (PV×ae)
 | .tmp t=>if rQ (pf t)=O then aa else ml pf t (pf t)
 | .cell t a=>EM pf t (pf t) (tk P a)
def uN(P:Program)(pf:ae):List ResultVar->Option (List PV×ae)
 |[]=>J ([],pf)
 |x::d=>(De P pf x).bind λa=>(uN P a.2 d).map λb=>(a.1::b.1,b.2)
def I5:List PV->PV
 |[]=>.az
 |[x]=>x
 |x::y::l=>.bR (x::y::l)
def P8:PF->PV
 | .v y=>y
 |_=>.az
def mq(pf:ae):Nat->List (Md×PV)->List PV
 |_,[]=>[]
 |k,(.io,_)::l=>P8 (pf k)::mq pf (k+1) l
 |k,_::l=>.az::mq pf (k+1) l
def Gk(b:List (Md×PV))(a:PV->List PV->Prop):Option (List PV×ae)->Prop
 |some x=>a (I5 x.1) (mq x.2 0 b)
 |none=>False
def uc(P:Program)(d:List ResultVar)(b:List (Md×PV))(a:PV->List PV->Prop):Exit->ae->Prop
 | .normal,pf| .ret,pf=>Gk b a (uN P pf d)
 |_,_=>False
def EV:Option (Md×PV)->PF
 |some a=>.v a.2
 |none=>jP
def sR(a:List (Md×PV)):ae:=λt=>EV a[t]?
def j9:Nat->List (Md×PV)->List Nat
 |_,[]=>[]
 |k,(.io,_)::l=>k::j9 (k+1) l
 |k,_::l=>j9 (k+1) l
section
variable {S:Nat}{T:List (Nat×Value)}{R E X:Env}{pf:ae}{Y W:FR}{c:aW}{P:Program}
variable{K:ae->Prop}{U:FR->AH->Prop}{o:Oper}{pre:List (Option Tmp)}
def O3(r:au c.nt T R E pf Y)(d:eK c T)(h:n0 P c o K pf)
(b:∀g W X,K g->au c.nt T R X g W->U W X.H):aN P c.nt o U Y E.H\/(c.hp≠[]/\fY P c.nt o U Y E.H):=by
 have l:(iA o.op).isSome=O->lO P c o K pf->dK P c.nt o U Y E.H:=λ_ h=>yl r d h b
 unfold n0 at h;split at h
 ·rename_i a;refine .inl ?_;have:=ztI r d h b;unfold aN;rw[a];exact this
 ·rename_i a;exact .inl (zsR r a h b)
 ·rename_i a;exact .inl (zsH r d a h b)
 ·rename_i a;exact .inl (zso r d a h b)
 ·rename_i a;exact .inl (zvV r d a h b)
 ·rename_i a;exact ztk r d a h b
 ·rename_i a;exact zvi r d a h b
 ·rename_i a;exact .inl (zwG r d a h b)
 ·rename_i a;exact .inl (ztw r d a h b)
 ·rename_i a;exact .inl (ztN r d a h b)
 ·rename_i a;exact .inl (zt9 r d a h b)
 ·rename_i a;exact ztS r d a h b
 ·rename_i a;exact zt5 r d a h b
 ·rename_i a;exact .inl (zro r d a h b)
 ·rename_i a;exact .inl (zqy r d a h b)
 ·rename_i a;split at h
  ·left;have:=yl r d h b;unfold aN;rw[a];exact this
  ·exact .inl (zrW r d a h b)
 ·rename_i args i a;left;unfold Rt at h;split at h
  ·rename_i x t e;split at h
   ·have:=yl r d h b;unfold aN;rw[a];exact this
   ·exact zwb r d a e h b
  ·cases h
 ·rename_i args i a;unfold Uy at h;split at h
  ·rename_i s x t n e;split at h
   ·rename_i k;subst k;exact .inl (zvA r d a e h b)
   ·exact .inr (ztO r d a e h b)
  ·cases h
 ·rename_i args i a;exact .inr (zvZ r a h b)
 ·rename_i a;exact .inl (zt0 r d a h b)
 ·rename_i s t x a;split at h
  ·rcases h.1 with f|f
   ·exact .inr ⟨f,zot r d a h.2 b⟩
   ·exact .inl (zAJ r a f (zot r d a h.2 b))
  ·left;have:=yl r d h b;unfold aN;rw[a];exact .inl this
 ·rename_i a;left;have:=yl r d h b;unfold aN;rw[a];exact this
 ·rename_i a;left;have:=yl r d h b;unfold aN;rw[a];exact this
 ·rename_i a;left;have:=yl r d h b;unfold aN;rw[a];exact this
 ·rename_i a;left;have:=yl r d h b;unfold aN;rw[a];exact this
 ·rename_i m t x y u a;split at h
  ·rename_i j;exact .inr ⟨h.1,ztR r d a j h.2 b⟩
  ·left;have:=yl r d h b;unfold aN;rw[a];exact this
 ·cases h
def YJ(r:au c.nt T R E pf Y)(j:eK c T){d:Option Tmp}(h:v5 c d K pf)(b:∀e W X,K e->au c.nt T R X e W->X.H=E.H->U W X.H):bu c.nt U d .skip Y E.H:=by
 cases d with
 |none=>exact b _ _ _ h r rfl
 |some d=>
  obtain⟨g,i⟩:=h;obtain⟨a,f⟩:=Pe g;simp only[bu,aE a];exact b _ _ E i (r.set a (λw l=>f (j.h d w l)) (GK.refl E) (λs _ _=>.refl _) (gi.refl E) r.wf r.fresh (by show(Y.put d .skip) d=.skip;simp[FR.put]) (λs k=>by cases k)) rfl
def zsC(r:au S T R E pf Y){j:Nat}{y:Option Bool}(h:Ca pf pre[j]? =J y):pz Y pre j=J y:=by
 unfold Ca at h;split at h
 ·rename_i d hd;unfold pz;rw[hd];simp only;have a:=r.f d;unfold LP at h;split at h
  ·rename_i b e;rw[e]at a;obtain⟨v,f,g⟩:=gu a (by simp);cases g;rw[f];exact h
  ·rename_i e;rw[e]at a;have a:Y d=.skip:=a;rw[a];exact h
  ·cases h
 ·cases h
def zvO(r:au c.nt T R E pf Y)(i:eK c T)(h:BK P c pre o K pf)
(g:∀d W X,K d->au c.nt T R X d W->U W X.H):zJ P c.nt pre o U Y E.H:=by
 unfold BK at h;unfold zJ;split at h
 ·rename_i f;rw[f];rcases O3 r i h g with h|h
  ·exact .inl h
  ·exact .inr h.2
 ·rename_i j b f;rw[f];simp only;unfold l6 at h;split at h
  ·rename_i y k;rw[zsC r k];simp only;split at h
   ·rename_i e;rw[aE e];rcases O3 r i h g with h|h
    ·exact .inl h
    ·exact .inr h.2
   ·rename_i e;rw[aA e];exact YJ r i h λd W X a b _=>g d W X a b
  ·cases h
def zwy(f:eK c T) :∀{l:List Oper}{E:Env}{pf:ae}{Y:FR}{K:ae->Prop}{U:FR->AH->Prop},au c.nt T R E pf Y->CS P c pre l K pf->
 (∀e W X,K e->au c.nt T R X e W->U W X.H)->pP P c.nt pre l U Y E.H:=by
 intro l;induction l with
 |nil=>intro E pf Y K U r h d;exact d _ _ _ h r
 |cons o l ih=>
  intro E pf Y K U r h d;rw[zqP];exact zvO r f h λe W X a b=>ih b a d
def sN{S:Nat}{d:Option Tmp}{x:FV}{Y:FR}{H b:AH}(e:fL b H)(h:bu S U d x Y H):bu S (λW a=>fL b a/\U W a) d x Y H:=by
 unfold bu at h⊢;split at h
 ·split at h
  ·rename_i hd;simp only[hd,e7];exact⟨e,h⟩
  ·cases h
 ·exact⟨e,h⟩
def zAp{H:AH}(p:mF H)(d:gV o.op=O)(L:∀f args t,o.op≠.call ⟨.value f,args,t⟩)(h:aN P S o U Y H):aN P S o (λW i=>fL H i/\U W i) Y H:=by
 have n:∀{o:Oper},dK P S o U Y H->dK P S o (λW i=>fL H i/\U W i) Y H:=by
  intro o h;unfold dK at h⊢;split at h
  ·split at h
   ·rename_i q;split at h
    ·rename_i s;exact sN (Re p q) h
    ·cases h
   ·cases h
  ·cases h
 unfold aN at h⊢;split at h
 ·rename_i a;split at h
  ·rename_i v s;exact sN (.refl H) h
  ·cases h
 ·split at h
  ·exact sN (.refl H) h
  ·cases h
 ·split at h
  ·exact sN (.refl H) h
  ·cases h
 ·refine h.imp (λh=>?_) λ⟨u,l,D,cs,k,j,e,g,r,w,x,y,z,A,B,C⟩=>⟨u,l,D,cs,k,j,e,g,r,w,x,y,z,A,B,sN ⟨Eu _,λid k m=>?_⟩ C⟩
  ·split at h
   ·exact sN (.refl H) h
   ·cases h
  ·have:=p id k m;simp only[AH.push];rw[aA (by omega)];exact m
 ·split at h
  ·split at h
   ·rename_i b;rw[aE b];exact⟨.refl H,h⟩
   ·cases h
  ·cases h
 ·split at h
  ·split at h
   ·rename_i b;rw[aE b];exact⟨.refl H,h⟩
   ·cases h
  ·cases h
 ·split at h
  ·rename_i q;split at h
   ·split at h
    ·rename_i b;rw[aE b];split at h
     ·rename_i N;exact⟨Re p q,h⟩
     ·cases h
    ·cases h
   ·cases h
  ·cases h
 ·rename_i a;rw[a]at d;cases d
 ·split at h
  ·split at h
   ·rename_i s;exact sN (.refl H) h
   ·cases h
  ·split at h
   ·rename_i s;exact sN (.refl H) h
   ·cases h
  ·cases h
 ·split at h
  ·split at h
   ·split at h
    ·rename_i b;rw[aE b];refine sN ⟨Eu _,λid k m=>?_⟩ h;have:=p id k m;simp only[AH.push];rw[aA (by omega)];exact m
    ·cases h
   ·cases h
  ·cases h
 ·rename_i a;rw[a]at d;cases d
 ·rename_i a;rw[a]at d;cases d
 ·rename_i f args t a;exact absurd a (L f args _)
 ·split at h
  ·exact sN (.refl H) h
  ·exact n h
 ·split at h
  ·exact sN (.refl H) h
  ·exact n h
 ·exact h.imp n λ⟨F,l,M,G,I⟩=>⟨F,l,M,G,sN (.refl H) I⟩
 ·exact n h
end
end Go.Pm
