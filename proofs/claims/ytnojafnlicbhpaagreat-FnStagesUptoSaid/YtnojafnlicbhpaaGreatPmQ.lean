import Derived.Test.YtnojafnlicbhpaaGreatPmP
open Bool renaming false→aa,true→Z
open Option renaming none→ae,some→J
set_option linter.defProp false
namespace Go.Pm
open Go.Am
def aY.CB(c:aY):aY:={c with hp:=[]}
def TT(P:Program)(c:aY)(o:Oper)(K:ah->Prop)(pf:ah):List Operand->Array TypeId->Prop
 |[x],⟨[t]⟩=>if dW P t=Z then lZ P c o K pf else BZ P c t x o.dst K pf
 |_,_=>False
def TF(P:Program)(c:aY)(d:Option Tmp)(K:ah->Prop)(pf:ah):List Operand->Array TypeId->Prop
 |[s,x],⟨[t,t']⟩=>if t=t' then FK P c t s x d K pf else Hb P c t t' s x d K pf
 |_,_=>False
def nw(P:Program)(c:aY)(o:Oper)(K:ah->Prop)(pf:ah):Prop:=
 match o.op with
 | .load t a=>Dy P c t a o.dst K pf
 | .store t a x=>E5 P c t a x o.dst K pf
 | .fieldAddr s x f=>zyo P c s x f o.dst K pf
 | .indexAddr t x i=>EF P c t x i o.dst K pf
 | .nilCheck x=>zCk c x o.dst K pf
 | .alloc e=>Gd P c e o.dst K pf
 | .box e x=>DG P c e x o.dst K pf
 | .buildSlice t len ps=>DQ P c t len ps.toList o.dst K pf
 | .build t ps=>Gm P c t ps.toList o.dst K pf
 | .pick b x y=>Gn c b x y o.dst K pf
 | .makeSlice t l cc=>Df P c t l cc o.dst K pf
 | .makeFunc fn xs ys=>DU c fn xs.toList ys.toList o.dst K pf
 | .move x=>sU (cS P o.type) c x o.dst K pf
 | .assign x=>Ga (cS P o.type) c x o.dst K pf
 | .extract x i=>EX c x i o.dst K pf
 | .slice t x l h m=>if dW P t=Z then lZ P c o K pf else FW P c t x l h m o.dst K pf
 | .call ⟨.builtin .len,args,ts⟩=>TT P c o K pf args.toList ts
 | .call ⟨.builtin .append,args,ts⟩=>TF P c o.dst K pf args.toList ts
 | .call ⟨.builtin .clear,args,ts⟩=>M4 P c o.dst K pf args.toList ts
 | .call ⟨.value f,args,ts⟩=>Z5 P c f args.toList ts.toList o.dst K pf
 | .convert s t x=>if dW P t=Z then(c.hp≠[]\/HP pf x=Z)/\xz P c s t x o.dst K pf else lZ P c o K pf
 | .call ⟨.builtin .min,_,_⟩| .call ⟨.builtin .max,_,_⟩| .unOp .. | .index .. =>lZ P c o K pf
 | .binOp op t x y _=>if v6 y=Z then c.hp≠[]/\Cb P c op t x o.dst K pf else lZ P c o K pf
 |_=>False
def Kk:PF->Option (Option Bool)
 | .v (.bool b)=>J (J b)
 | .skip=>J ae
 |_=>ae
def A8(pf:ah):Option (Option Tmp)->Option (Option Bool)
 |some (J d)=>Kk (pf d)
 |_=>ae
def uk(c:aY)(d:Option Tmp)(K:ah->Prop)(pf:ah):Prop:=
 match d with
 |some d=>gJ c d .skip=Z/\K (pf.put d .skip)
 |none=>K pf
def k9(c:aY)(b:Bool)(d:Option Tmp)(run:Prop)(K:ah->Prop)(pf:ah):Option (Option Bool)->Prop
 |some y=>if y=J b then run else uk c d K pf
 |none=>False
def yT(P:Program)(c:aY)(pre:List (Option Tmp))(o:Oper)(K:ah->Prop)(pf:ah):Prop:=
 match o.guard with
 |none=>nw P c o K pf
 |some (j,b)=>k9 c b o.dst (nw P c o K pf) K pf (A8 pf pre[j]?)
def C0(P:Program)(c:aY)(pre:List (Option Tmp)):List Oper->(ah->Prop)->ah->Prop
 |[],K,pf=>K pf
 |o::r,K,pf=>yT P c pre o (C0 P c pre r K) pf
def Lx:PF->Bool
 | .v x=> !dv x
 |_=>aa
def Ng:Option PV->Bool
 |some x=> !dv x
 |none=>aa
def lv(pf:ah)(rg:List Nat)(ls:Bool)(t:Nat):PF->Bool
 | .v x=> !dv x
 | .skip=>Z
 | .ls _ _=>ls
 | .bl _=>rg.contains t
 | .pt s p _ _=>rg.contains s||(Lx (pf s)|| !p.isEmpty)
 | .rf s p=>Ng (ce pf s p)
 | .rv _ _ _ _| .ra _ _ _ _ _| .cl _ _ _=>Z
 | .as b _ _ _ _ _=>ls||b
def HJ:PF->Bool
 | .bl _=>Z
 |_=>aa
def CO(pf:ah):PF->Bool
 | .bl _| .skip=>Z
 | .pt s [] _ _=>HJ (pf s)
 |_=>aa
def A4(pf:ah):Option Nat->Bool
 |some t=>CO pf (pf t)
 |none=>Z
def xO(pf:ah)(rg:List Nat)(ls:Bool):List Nat->Bool
 |[]=>Z
 |t::r=>lv pf rg ls t (pf t)&&xO pf rg ls r
def gC:Op->Bool
 | .store .. =>aa
 | .call ⟨.builtin .append,_,_⟩=>aa
 | .call ⟨.builtin .copy,_,_⟩=>aa
 |_=>Z
def sf(P:Program)(c:aY)(ext:Bool)(o:Oper)(K:ah->Prop)(pf:ah):Prop:=
 match o.op with
 | .call ⟨.value f,args,ts⟩=>if ext=Z then GJ P c f args.toList ts.toList o.dst K pf (List.replicate args.toList.length .sh)else nw P c.CB o K pf
 |_=>(ext=Z->gC o.op=Z)/\nw P c.CB o K pf
def IH(P:Program)(c:aY)(pre:List (Option Tmp))(ext:Bool)(o:Oper)(K:ah->Prop)(pf:ah):Prop:=
 match o.guard with
 |none=>sf P c ext o K pf
 |some (j,b)=>k9 c b o.dst (sf P c ext o K pf) K pf (A8 pf pre[j]?)
def Fo(P:Program)(c:aY)(pre:List (Option Tmp))(e:DE)(o:Oper)(K:ah->Prop)(pf:ah):Prop:=
 (xO pf e.rg e.ls e.sl&&A4 pf e.mr)=Z/\IH P c pre e.ex o K pf
def E4(P:Program)(c:aY)(pre:List (Option Tmp)):List (DE×Oper)->(ah->Prop)->ah->Prop
 |[],K,pf=>K pf
 |(e,o)::r,K,pf=>Fo P c pre e o (E4 P c pre r K) pf
inductive nZ:ah->ah->Prop where
 |w {bW pf:ah}(h:∀t,bW t=pf t\/bW t=jP):nZ bW pf
 |f {bW pf:ah}(s:Nat) (x:PV) (hs:pf s=.v x) (hx:dv x=aa) (h:nZ bW ((pf.bU s (.v (drop x))).kill s 0)):nZ bW pf
 |g {bW pf aQ:ah}(s:Nat) (p:aA) (x:PV) (hp:p≠[]) (hs:ce pf s p=J x) (hx:dv x=aa) (h1:iz pf s p (drop x)=J aQ) (h:nZ bW aQ):nZ bW pf
def aq.wk{nt:Nat}{pin:List (Nat×Value)}{E0:Env}{fr:FR}:∀{bW pf:ah},nZ bW pf->∀{E:Env},aq nt pin E0 E pf fr->∃E',aq nt pin E0 E' bW fr/\E'.H=E.H:=by
 intro bW pf h;induction h with
 |w h=>intro E r;exact⟨E,r.Vv h,rfl⟩
 |f s x hs hx _ ih=>
  intro E r;rename_i pf _;have sW:=nX hx
  have ht:s<nt:=by
   rcases dK s nt with h1|h1
   ·exact h1
   ·have:=r.hi s h1;rw[hs]at this;cases this;exact absurd rfl sW
  obtain⟨v,a1,a2,a3⟩:=r.Ei (s:=s) (p:=[]) ht (by simp[ce,hs,fB,iM]) sW (.inr ⟨x,hs⟩) rfl;obtain⟨E',b1,b2⟩:=ih a2;exact⟨E',b1,b2⟩
 |g s p x hp hs hx h1 _ ih=>
  intro E r
  have ht:s<nt:=by
   rcases dK s nt with h2|h2
   ·exact h2
   ·have:=r.hi s h2;cases p with
    |nil=>exact absurd rfl hp
    |cons a p=>rw[ce,this]at hs;cases hs
  obtain⟨v,a1,a2,a3⟩:=r.Ei ht hs (nX hx) (.inl hp) h1;obtain⟨E',b1,b2⟩:=ih a2;exact⟨E',b1,b2⟩
def C5(body:(Exit->ah->Prop)->ah->Prop)(Q:Exit->ah->Prop):Nat->ah->Prop
 |0,_=>False
 |n+1,pf=>∃bW,nZ bW pf/\body (λe pf'=>match e with| .normal=>C5 body Q n pf'|e=>Q e pf') bW
def Xp(K:ah->Prop)(Q:Exit->ah->Prop):Exit->ah->Prop
 | .normal,pf=>K pf
 |e,pf=>Q e pf
def GZ(id:Nat)(Q:Exit->ah->Prop):Exit->ah->Prop
 | .exit i,pf=>if i=id then Q .normal pf else Q (.exit i) pf
 |e,pf=>Q e pf
def Ts(b:Option Value)(x y:Prop):Prop:=
 match b with
 |some (.bool b)=>if b=Z then x else y
 |_=>False
def gx(P:Program)(c:aY):Code->(Exit->ah->Prop)->ah->Prop
 | .skip,Q=>Q .normal
 | .region _ ops yG,Q=>λpf=>if yG=Z then
  P.follows .mixedOrders=Z/\∃n,CQ (λD=>E4 P c (ops.toList.map (·.dst)) (D.map λx=>(x,ops.toList.getD x.i default)) (Q .normal) pf) ops.toList n []
  else C0 P c (ops.toList.map (·.dst)) ops.toList (Q .normal) pf
 | .seq x y,Q=>gx P c x (Xp (λpf=>∃bW,nZ bW pf/\gx P c y Q bW) Q)
 | .cond b x y,Q=>λpf=>∃bW,nZ bW pf/\Ts (cu bW b) (gx P c x Q bW) (gx P c y Q bW)
 | .block id b,Q=>gx P c b (GZ id Q)
 | .loop b,Q=>λpf=>∃n,C5 (gx P c b) Q n pf
 | .exit id,Q=>Q (.exit id)
 | .ret,Q=>Q .ret
 |_,_=>λ_=>False
def EV(pf:ah)(t:Nat):PF->Option (Bool×Nat)->Option (PV×ah)
 | .bl row,J (Z,sz)=>if sz=row.length then J (.agg row,(pf.bU t jP).kill t 0)else ae
 | .bl (x::_),J (aa,_)=>J (x,(pf.bU t jP).kill t 0)
 |_,_=>ae
def B7(P:Program)(pf:ah):ResultVar->Option (PV×ah)
 | .tmp t=>if qK (pf t)=Z then ae else ll pf t (pf t)
 | .cell t ty=>EV pf t (pf t) (tk P ty)
def tJ(P:Program)(pf:ah):List ResultVar->Option (List PV×ah)
 |[]=>J ([],pf)
 |x::xs=>(B7 P pf x).bind λa=>(tJ P a.2 xs).map λb=>(a.1::b.1,b.2)
def GW:List PV->PV
 |[]=>.au
 |[x]=>x
 |x::y::l=>.bO (x::y::l)
def Ma:PF->PV
 | .v y=>y
 |_=>.au
def lL(pf:ah):Nat->List (Md×PV)->List PV
 |_,[]=>[]
 |k,(.io,_)::l=>Ma (pf k)::lL pf (k+1) l
 |k,_::l=>.au::lL pf (k+1) l
def EB(as:List (Md×PV))(R:PV->List PV->Prop):Option (List PV×ah)->Prop
 |some x=>R (GW x.1) (lL x.2 0 as)
 |none=>False
def rB(P:Program)(rs:List ResultVar)(as:List (Md×PV))(R:PV->List PV->Prop):Exit->ah->Prop
 | .normal,pf| .ret,pf=>EB as R (tJ P pf rs)
 |_,_=>False
def EP:Option (Md×PV)->PF
 |some a=>.v a.2
 |none=>jP
def qi(as:List (Md×PV)):ah:=λt=>EP as[t]?
def jw:Nat->List (Md×PV)->List Nat
 |_,[]=>[]
 |k,(.io,_)::l=>k::jw (k+1) l
 |k,_::l=>jw (k+1) l
section
variable {nt:Nat}{pin:List (Nat×Value)}{E0 E E':Env}{pf:ah}{fr ai:FR}{c:aY}{P:Program}
variable{K:ah->Prop}{K':FR->AH->Prop}{o:Oper}{pre:List (Option Tmp)}
def NA(r:aq c.nt pin E0 E pf fr)(hp:er c pin)(h:nw P c o K pf)
(hk:∀pf' ai E',K pf'->aq c.nt pin E0 E' pf' ai->K' ai E'.H):aM P c.nt o K' fr E.H\/(c.hp≠[]/\fj P c.nt o K' fr E.H):=by
 have hsc:(gp o.op).isSome=Z->lZ P c o K pf->dw P c.nt o K' fr E.H:=λ_ h=>xV r hp h hk
 unfold nw at h;split at h
 ·rename_i ho;refine .inl ?_;have:=zuz r hp h hk;unfold aM;rw[ho];exact this
 ·rename_i ho;exact .inl (ztu r ho h hk)
 ·rename_i ho;exact .inl (ztb r hp ho h hk)
 ·rename_i ho;exact .inl (zsz r hp ho h hk)
 ·rename_i ho;exact .inl (zvX r hp ho h hk)
 ·rename_i ho;exact zsT r hp ho h hk
 ·rename_i ho;exact zv9 r hp ho h hk
 ·rename_i ho;exact .inl (zvF r hp ho h hk)
 ·rename_i ho;exact .inl (ztY r hp ho h hk)
 ·rename_i ho;exact .inl (zuM r hp ho h hk)
 ·rename_i ho;exact .inl (zuA r hp ho h hk)
 ·rename_i ho;exact zuk r hp ho h hk
 ·rename_i ho;exact zuE r hp ho h hk
 ·rename_i ho;exact .inl (zrE r hp ho h hk)
 ·rename_i ho;exact .inl (zqX r hp ho h hk)
 ·rename_i ho;split at h
  ·left;have:=xV r hp h hk;unfold aM;rw[ho];exact this
  ·exact .inl (zt1 r hp ho h hk)
 ·rename_i args ts ho;left;unfold TT at h;split at h
  ·rename_i x t ha;split at h
   ·have:=xV r hp h hk;unfold aM;rw[ho];exact this
   ·exact zwD r hp ho ha h hk
  ·cases h
 ·rename_i args ts ho;unfold TF at h;split at h
  ·rename_i s x t t' ha;split at h
   ·rename_i xZ;subst xZ;exact .inl (zwf r hp ho ha h hk)
   ·exact .inr (zuj r hp ho ha h hk)
  ·cases h
 ·rename_i args ts ho;exact .inr (zwS r ho h hk)
 ·rename_i ho;exact .inl (zt8 r hp ho h hk)
 ·rename_i s t x ho;split at h
  ·rcases h.1 with h1|h1
   ·exact .inr ⟨h1,Wf r hp ho h.2 hk⟩
   ·exact .inl (zA0 r ho h1 (Wf r hp ho h.2 hk))
  ·left;have:=xV r hp h hk;unfold aM;rw[ho];exact .inl this
 ·rename_i ho;left;have:=xV r hp h hk;unfold aM;rw[ho];exact this
 ·rename_i ho;left;have:=xV r hp h hk;unfold aM;rw[ho];exact this
 ·rename_i ho;left;have:=xV r hp h hk;unfold aM;rw[ho];exact this
 ·rename_i ho;left;have:=xV r hp h hk;unfold aM;rw[ho];exact this
 ·rename_i op t x y u ho;split at h
  ·rename_i hy;exact .inr ⟨h.1,zup r hp ho hy h.2 hk⟩
  ·left;have:=xV r hp h hk;unfold aM;rw[ho];exact this
 ·cases h
def zoR(r:aq c.nt pin E0 E pf fr)(hp:er c pin){d:Option Tmp}(h:uk c d K pf)(hk:∀pf' ai E',K pf'->aq c.nt pin E0 E' pf' ai->E'.H=E.H->K' ai E'.H):bB c.nt K' d .skip fr E.H:=by
 cases d with
 |none=>exact hk _ _ _ h r rfl
 |some d=>
  obtain⟨h1,h2⟩:=h;obtain⟨c1,c2⟩:=LY h1;simp only[bB,aB c1];exact hk _ _ E h2 (r.set c1 (λw hw=>c2 (hp.h d w hw)) (GK.refl E) (λs _ _=>.refl _) (fZ.refl E) r.wf r.fresh (by show(fr.put d .skip) d=.skip;simp[FR.put]) (λs hs=>by cases hs)) rfl
def Yb(r:aq nt pin E0 E pf fr){j:Nat}{y:Option Bool}(h:A8 pf pre[j]? =J y):oM fr pre j=J y:=by
 unfold A8 at h;split at h
 ·rename_i d hd;unfold oM;rw[hd];simp only;have hf:=r.f d;unfold Kk at h;split at h
  ·rename_i b hb;rw[hb]at hf;obtain⟨v,h1,h2⟩:=ga hf (by simp);cases h2;rw[h1];exact h
  ·rename_i hb;rw[hb]at hf;have hf:fr d=.skip:=hf;rw[hf];exact h
  ·cases h
 ·cases h
def zwh(r:aq c.nt pin E0 E pf fr)(hp:er c pin)(h:yT P c pre o K pf)
(hk:∀pf' ai E',K pf'->aq c.nt pin E0 E' pf' ai->K' ai E'.H):zA P c.nt pre o K' fr E.H:=by
 unfold yT at h;unfold zA;split at h
 ·rename_i hg;rw[hg];rcases NA r hp h hk with h|h
  ·exact .inl h
  ·exact .inr h.2
 ·rename_i j b hg;rw[hg];simp only;unfold k9 at h;split at h
  ·rename_i y hy;rw[Yb r hy];simp only;split at h
   ·rename_i e;rw[aB e];rcases NA r hp h hk with h|h
    ·exact .inl h
    ·exact .inr h.2
   ·rename_i e;rw[az e];exact zoR r hp h λpf' ai E' a b _=>hk pf' ai E' a b
  ·cases h
def zwv(hp:er c pin) :∀{l:List Oper}{E:Env}{pf:ah}{fr:FR}{K:ah->Prop}{K':FR->AH->Prop},aq c.nt pin E0 E pf fr->C0 P c pre l K pf->
 (∀pf' ai E',K pf'->aq c.nt pin E0 E' pf' ai->K' ai E'.H)->mW P c.nt pre l K' fr E.H:=by
 intro l;induction l with
 |nil=>intro E pf fr K K' r h hk;exact hk _ _ _ h r
 |cons o l ih=>
  intro E pf fr K K' r h hk;rw[zrx];exact zwh r hp h λpf' ai E' a b=>ih b a hk
def rA{nt:Nat}{d:Option Tmp}{x:FV}{fr:FR}{H H0:AH}(he:fu H0 H)(h:bB nt K' d x fr H):bB nt (λai H'=>fu H0 H'/\K' ai H') d x fr H:=by
 unfold bB at h⊢;split at h
 ·split at h
  ·rename_i hd;simp only[hd,eP];exact⟨he,h⟩
  ·cases h
 ·exact⟨he,h⟩
def zB3{H:AH}(hw:my H)(he:gC o.op=Z)(hc:∀f args ts,o.op≠.call ⟨.value f,args,ts⟩)(h:aM P nt o K' fr H):aM P nt o (λai H'=>fu H H'/\K' ai H') fr H:=by
 have Mz:∀{o:Oper},dw P nt o K' fr H->dw P nt o (λai H'=>fu H H'/\K' ai H') fr H:=by
  intro o h;unfold dw at h⊢;split at h
  ·split at h
   ·rename_i hm;split at h
    ·rename_i hv;exact rA (PL hw hm) h
    ·cases h
   ·cases h
  ·cases h
 unfold aM at h⊢;split at h
 ·rename_i ho;split at h
  ·rename_i v hv;exact rA (.refl H) h
  ·cases h
 ·split at h
  ·exact rA (.refl H) h
  ·cases h
 ·split at h
  ·exact rA (.refl H) h
  ·cases h
 ·refine h.imp (λh=>?_) λ⟨u,l,es,cs,k,j,e,g,r,a1,a2,a3,a4,a5,a6,a7⟩=>⟨u,l,es,cs,k,j,e,g,r,a1,a2,a3,a4,a5,a6,rA ⟨C7 _,λid k hk=>?_⟩ a7⟩
  ·split at h
   ·exact rA (.refl H) h
   ·cases h
  ·have:=hw id k hk;simp only[AH.push];rw[az (by omega)];exact hk
 ·split at h
  ·split at h
   ·rename_i uW;rw[aB uW];exact⟨.refl H,h⟩
   ·cases h
  ·cases h
 ·split at h
  ·split at h
   ·rename_i uW;rw[aB uW];exact⟨.refl H,h⟩
   ·cases h
  ·cases h
 ·split at h
  ·rename_i hm;split at h
   ·split at h
    ·rename_i uW;rw[aB uW];split at h
     ·rename_i hf;exact⟨PL hw hm,h⟩
     ·cases h
    ·cases h
   ·cases h
  ·cases h
 ·rename_i ho;rw[ho]at he;cases he
 ·split at h
  ·split at h
   ·rename_i hv;exact rA (.refl H) h
   ·cases h
  ·split at h
   ·rename_i hv;exact rA (.refl H) h
   ·cases h
  ·cases h
 ·split at h
  ·split at h
   ·split at h
    ·rename_i uW;rw[aB uW];refine rA ⟨C7 _,λid k hk=>?_⟩ h;have:=hw id k hk;simp only[AH.push];rw[az (by omega)];exact hk
    ·cases h
   ·cases h
  ·cases h
 ·rename_i ho;rw[ho]at he;cases he
 ·rename_i ho;rw[ho]at he;cases he
 ·rename_i f args ts ho;exact absurd ho (hc f args _)
 ·split at h
  ·exact rA (.refl H) h
  ·exact Mz h
 ·split at h
  ·exact rA (.refl H) h
  ·exact Mz h
 ·exact h.imp Mz λ⟨h1,l,ns,h2,h3⟩=>⟨h1,l,ns,h2,rA (.refl H) h3⟩
 ·exact Mz h
end
end Go.Pm
