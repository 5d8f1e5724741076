import Derived.Test.YtnojafnlicbhpaaGreatPmP
open Bool renaming false→aa,true→Z
open Option renaming none→ae,some→J
set_option linter.defProp false
namespace Go.Pm
open Go.Am
def aY.Cb(c:aY):aY:={c with hp:=[]}
def RP(P:Program)(c:aY)(o:Oper)(K:ah->Prop)(pf:ah):List Operand->Array TypeId->Prop
 |[x],⟨[t]⟩=>if dU P t=Z then lR P c o K pf else A8 P c t x o.dst K pf
 |_,_=>False
def QW(P:Program)(c:aY)(d:Option Tmp)(K:ah->Prop)(pf:ah):List Operand->Array TypeId->Prop
 |[s,x],⟨[t,t']⟩=>if t=t' then DO P c t s x d K pf else Jm P c t t' s x d K pf
 |_,_=>False
def nE(P:Program)(c:aY)(o:Oper)(K:ah->Prop)(pf:ah):Prop:=
 match o.op with
 | .load t a=>DU P c t a o.dst K pf
 | .store t a x=>EK P c t a x o.dst K pf
 | .fieldAddr s x f=>Y8 P c s x f o.dst K pf
 | .indexAddr t x i=>Dj P c t x i o.dst K pf
 | .nilCheck x=>zCp c x o.dst K pf
 | .alloc e=>D1 P c e o.dst K pf
 | .box e x=>Gl P c e x o.dst K pf
 | .buildSlice t len ps=>Ex P c t len ps.toList o.dst K pf
 | .build t ps=>Fh P c t ps.toList o.dst K pf
 | .pick b x y=>Fs c b x y o.dst K pf
 | .makeSlice t l cc=>DH P c t l cc o.dst K pf
 | .makeFunc fn xs ys=>EO c fn xs.toList ys.toList o.dst K pf
 | .move x=>tw (cR P o.type) c x o.dst K pf
 | .assign x=>Eg (cR P o.type) c x o.dst K pf
 | .extract x i=>Ek c x i o.dst K pf
 | .slice t x l h m=>if dU P t=Z then lR P c o K pf else E6 P c t x l h m o.dst K pf
 | .call ⟨.builtin .len,args,ts⟩=>RP P c o K pf args.toList ts
 | .call ⟨.builtin .append,args,ts⟩=>QW P c o.dst K pf args.toList ts
 | .call ⟨.builtin .clear,args,ts⟩=>Oj P c o.dst K pf args.toList ts
 | .call ⟨.value f,args,ts⟩=>Zn P c f args.toList ts.toList o.dst K pf
 | .convert s t x=>if dU P t=Z then(c.hp≠[]\/Jb pf x=Z)/\xw P c s t x o.dst K pf else lR P c o K pf
 | .call ⟨.builtin .min,_,_⟩| .call ⟨.builtin .max,_,_⟩| .unOp .. | .index .. =>lR P c o K pf
 | .binOp op t x y _=>if ua y=Z then c.hp≠[]/\BZ P c op t x o.dst K pf else lR P c o K pf
 |_=>False
def Jf:PF->Option (Option Bool)
 | .v (.bool b)=>J (J b)
 | .skip=>J ae
 |_=>ae
def Bm(pf:ah):Option (Option Tmp)->Option (Option Bool)
 |some (J d)=>Jf (pf d)
 |_=>ae
def vv(c:aY)(d:Option Tmp)(K:ah->Prop)(pf:ah):Prop:=
 match d with
 |some d=>gO c d .skip=Z/\K (pf.put d .skip)
 |none=>K pf
def lX(c:aY)(b:Bool)(d:Option Tmp)(run:Prop)(K:ah->Prop)(pf:ah):Option (Option Bool)->Prop
 |some y=>if y=J b then run else vv c d K pf
 |none=>False
def zj(P:Program)(c:aY)(pre:List (Option Tmp))(o:Oper)(K:ah->Prop)(pf:ah):Prop:=
 match o.guard with
 |none=>nE P c o K pf
 |some (j,b)=>lX c b o.dst (nE P c o K pf) K pf (Bm pf pre[j]?)
def Ck(P:Program)(c:aY)(pre:List (Option Tmp)):List Oper->(ah->Prop)->ah->Prop
 |[],K,pf=>K pf
 |o::r,K,pf=>zj P c pre o (Ck P c pre r K) pf
def LQ:PF->Bool
 | .v x=> !dt x
 |_=>aa
def NC:Option PV->Bool
 |some x=> !dt x
 |none=>aa
def lm(pf:ah)(rg:List Nat)(ls:Bool)(t:Nat):PF->Bool
 | .v x=> !dt x
 | .skip=>Z
 | .ls _ _=>ls
 | .bl _=>rg.contains t
 | .pt s p _ _=>rg.contains s||(LQ (pf s)|| !p.isEmpty)
 | .rf s p=>NC (cj pf s p)
 | .rv _ _ _ _| .ra _ _ _ _ _| .cl _ _ _=>Z
 | .as b _ _ _ _ _=>ls||b
def Iu:PF->Bool
 | .bl _=>Z
 |_=>aa
def Ch(pf:ah):PF->Bool
 | .bl _| .skip=>Z
 | .pt s [] _ _=>Iu (pf s)
 |_=>aa
def CG(pf:ah):Option Nat->Bool
 |some t=>Ch pf (pf t)
 |none=>Z
def yj(pf:ah)(rg:List Nat)(ls:Bool):List Nat->Bool
 |[]=>Z
 |t::r=>lm pf rg ls t (pf t)&&yj pf rg ls r
def gK:Op->Bool
 | .store .. =>aa
 | .call ⟨.builtin .append,_,_⟩=>aa
 | .call ⟨.builtin .copy,_,_⟩=>aa
 |_=>Z
def rO(P:Program)(c:aY)(ext:Bool)(o:Oper)(K:ah->Prop)(pf:ah):Prop:=
 match o.op with
 | .call ⟨.value f,args,ts⟩=>if ext=Z then IB P c f args.toList ts.toList o.dst K pf (List.replicate args.toList.length .sh)else nE P c.Cb o K pf
 |_=>(ext=Z->gK o.op=Z)/\nE P c.Cb o K pf
def GS(P:Program)(c:aY)(pre:List (Option Tmp))(ext:Bool)(o:Oper)(K:ah->Prop)(pf:ah):Prop:=
 match o.guard with
 |none=>rO P c ext o K pf
 |some (j,b)=>lX c b o.dst (rO P c ext o K pf) K pf (Bm pf pre[j]?)
def EV(P:Program)(c:aY)(pre:List (Option Tmp))(e:DE)(o:Oper)(K:ah->Prop)(pf:ah):Prop:=
 (yj pf e.rg e.ls e.sl&&CG pf e.mr)=Z/\GS P c pre e.ex o K pf
def EN(P:Program)(c:aY)(pre:List (Option Tmp)):List (DE×Oper)->(ah->Prop)->ah->Prop
 |[],K,pf=>K pf
 |(e,o)::r,K,pf=>EV P c pre e o (EN P c pre r K) pf
inductive oZ:ah->ah->Prop where
 |w {bV pf:ah}(h:∀t,bV t=pf t\/bV t=jP):oZ bV pf
 |f {bV pf:ah}(s:Nat) (x:PV) (hs:pf s=.v x) (hx:dt x=aa) (h:oZ bV ((pf.bS s (.v (drop x))).kill s 0)):oZ bV pf
 |g {bV pf aQ:ah}(s:Nat) (p:aA) (x:PV) (hp:p≠[]) (hs:cj pf s p=J x) (hx:dt x=aa) (h1:iw pf s p (drop x)=J aQ) (h:oZ bV aQ):oZ bV pf
def aq.wk{nt:Nat}{pin:List (Nat×Value)}{E0:Env}{fr:FR}:∀{bV pf:ah},oZ bV pf->∀{E:Env},aq nt pin E0 E pf fr->∃E',aq nt pin E0 E' bV fr/\E'.H=E.H:=by
 intro bV pf h;induction h with
 |w h=>intro E r;exact⟨E,r.W7 h,rfl⟩
 |f s x hs hx _ ih=>
  intro E r;rename_i pf _;have tL:=n5 hx
  have ht:s<nt:=by
   rcases dK s nt with h1|h1
   ·exact h1
   ·have:=r.hi s h1;rw[hs]at this;cases this;exact absurd rfl tL
  obtain⟨v,a1,a2,a3⟩:=r.Et (s:=s) (p:=[]) ht (by simp[cj,hs,fD,iB]) tL (.inr ⟨x,hs⟩) rfl;obtain⟨E',b1,b2⟩:=ih a2;exact⟨E',b1,b2⟩
 |g s p x hp hs hx h1 _ ih=>
  intro E r
  have ht:s<nt:=by
   rcases dK s nt with h2|h2
   ·exact h2
   ·have:=r.hi s h2;cases p with
    |nil=>exact absurd rfl hp
    |cons a p=>rw[cj,this]at hs;cases hs
  obtain⟨v,a1,a2,a3⟩:=r.Et ht hs (n5 hx) (.inl hp) h1;obtain⟨E',b1,b2⟩:=ih a2;exact⟨E',b1,b2⟩
def BE(body:(Exit->ah->Prop)->ah->Prop)(Q:Exit->ah->Prop):Nat->ah->Prop
 |0,_=>False
 |n+1,pf=>∃bV,oZ bV pf/\body (λe pf'=>match e with| .normal=>BE body Q n pf'|e=>Q e pf') bV
def Wc(K:ah->Prop)(Q:Exit->ah->Prop):Exit->ah->Prop
 | .normal,pf=>K pf
 |e,pf=>Q e pf
def HN(id:Nat)(Q:Exit->ah->Prop):Exit->ah->Prop
 | .exit i,pf=>if i=id then Q .normal pf else Q (.exit i) pf
 |e,pf=>Q e pf
def QX(b:Option Value)(x y:Prop):Prop:=
 match b with
 |some (.bool b)=>if b=Z then x else y
 |_=>False
def gq(P:Program)(c:aY):Code->(Exit->ah->Prop)->ah->Prop
 | .skip,Q=>Q .normal
 | .region _ ops zd,Q=>λpf=>if zd=Z then
  P.follows .mixedOrders=Z/\∃n,BQ (λD=>EN P c (ops.toList.map (·.dst)) (D.map λx=>(x,ops.toList.getD x.i default)) (Q .normal) pf) ops.toList n []
  else Ck P c (ops.toList.map (·.dst)) ops.toList (Q .normal) pf
 | .seq x y,Q=>gq P c x (Wc (λpf=>∃bV,oZ bV pf/\gq P c y Q bV) Q)
 | .cond b x y,Q=>λpf=>∃bV,oZ bV pf/\QX (cq bV b) (gq P c x Q bV) (gq P c y Q bV)
 | .block id b,Q=>gq P c b (HN id Q)
 | .loop b,Q=>λpf=>∃n,BE (gq P c b) Q n pf
 | .exit id,Q=>Q (.exit id)
 | .ret,Q=>Q .ret
 |_,_=>λ_=>False
def F7(pf:ah)(t:Nat):PF->Option (Bool×Nat)->Option (PV×ah)
 | .bl row,J (Z,sz)=>if sz=row.length then J (.agg row,(pf.bS t jP).kill t 0)else ae
 | .bl (x::_),J (aa,_)=>J (x,(pf.bS t jP).kill t 0)
 |_,_=>ae
def CU(P:Program)(pf:ah):ResultVar->Option (PV×ah)
 | .tmp t=>if qh (pf t)=Z then ae else lz pf t (pf t)
 | .cell t ty=>F7 pf t (pf t) (tk P ty)
def sN(P:Program)(pf:ah):List ResultVar->Option (List PV×ah)
 |[]=>J ([],pf)
 |x::xs=>(CU P pf x).bind λa=>(sN P a.2 xs).map λb=>(a.1::b.1,b.2)
def HH:List PV->PV
 |[]=>.au
 |[x]=>x
 |x::y::l=>.bO (x::y::l)
def KO:PF->PV
 | .v y=>y
 |_=>.au
def kX(pf:ah):Nat->List (Md×PV)->List PV
 |_,[]=>[]
 |k,(.io,_)::l=>KO (pf k)::kX pf (k+1) l
 |k,_::l=>.au::kX pf (k+1) l
def Fj(as:List (Md×PV))(R:PV->List PV->Prop):Option (List PV×ah)->Prop
 |some x=>R (HH x.1) (kX x.2 0 as)
 |none=>False
def sg(P:Program)(rs:List ResultVar)(as:List (Md×PV))(R:PV->List PV->Prop):Exit->ah->Prop
 | .normal,pf| .ret,pf=>Fj as R (sN P pf rs)
 |_,_=>False
def EY:Option (Md×PV)->PF
 |some a=>.v a.2
 |none=>jP
def qF(as:List (Md×PV)):ah:=λt=>EY as[t]?
def jA:Nat->List (Md×PV)->List Nat
 |_,[]=>[]
 |k,(.io,_)::l=>k::jA (k+1) l
 |k,_::l=>jA (k+1) l
section
variable {nt:Nat}{pin:List (Nat×Value)}{E0 E E':Env}{pf:ah}{fr ai:FR}{c:aY}{P:Program}
variable{K:ah->Prop}{K':FR->AH->Prop}{o:Oper}{pre:List (Option Tmp)}
def Oe(r:aq c.nt pin E0 E pf fr)(hp:ep c pin)(h:nE P c o K pf)
(hk:∀pf' ai E',K pf'->aq c.nt pin E0 E' pf' ai->K' ai E'.H):aM P c.nt o K' fr E.H\/(c.hp≠[]/\fo P c.nt o K' fr E.H):=by
 have hsc:(gw o.op).isSome=Z->lR P c o K pf->dA P c.nt o K' fr E.H:=λ_ h=>yf r hp h hk
 unfold nE at h;split at h
 ·rename_i ho;refine .inl ?_;have:=zug r hp h hk;unfold aM;rw[ho];exact this
 ·rename_i ho;exact .inl (zsA r ho h hk)
 ·rename_i ho;exact .inl (zt1 r hp ho h hk)
 ·rename_i ho;exact .inl (zsU r hp ho h hk)
 ·rename_i ho;exact .inl (zwY r hp ho h hk)
 ·rename_i ho;exact ztn r hp ho h hk
 ·rename_i ho;exact zv0 r hp ho h hk
 ·rename_i ho;exact .inl (zwf r hp ho h hk)
 ·rename_i ho;exact .inl (ztb r hp ho h hk)
 ·rename_i ho;exact .inl (zuA r hp ho h hk)
 ·rename_i ho;exact .inl (zuf r hp ho h hk)
 ·rename_i ho;exact zuG r hp ho h hk
 ·rename_i ho;exact zue r hp ho h hk
 ·rename_i ho;exact .inl (zrF r hp ho h hk)
 ·rename_i ho;exact .inl (zqx r hp ho h hk)
 ·rename_i ho;split at h
  ·left;have:=yf r hp h hk;unfold aM;rw[ho];exact this
  ·exact .inl (ztP r hp ho h hk)
 ·rename_i args ts ho;left;unfold RP at h;split at h
  ·rename_i x t ha;split at h
   ·have:=yf r hp h hk;unfold aM;rw[ho];exact this
   ·exact zvT r hp ho ha h hk
  ·cases h
 ·rename_i args ts ho;unfold QW at h;split at h
  ·rename_i s x t t' ha;split at h
   ·rename_i xb;subst xb;exact .inl (zwB r hp ho ha h hk)
   ·exact .inr (zuk r hp ho ha h hk)
  ·cases h
 ·rename_i args ts ho;exact .inr (zwP r ho h hk)
 ·rename_i ho;exact .inl (zt8 r hp ho h hk)
 ·rename_i s t x ho;split at h
  ·rcases h.1 with h1|h1
   ·exact .inr ⟨h1,zoM r hp ho h.2 hk⟩
   ·exact .inl (zBY r ho h1 (zoM r hp ho h.2 hk))
  ·left;have:=yf r hp h hk;unfold aM;rw[ho];exact .inl this
 ·rename_i ho;left;have:=yf r hp h hk;unfold aM;rw[ho];exact this
 ·rename_i ho;left;have:=yf r hp h hk;unfold aM;rw[ho];exact this
 ·rename_i ho;left;have:=yf r hp h hk;unfold aM;rw[ho];exact this
 ·rename_i ho;left;have:=yf r hp h hk;unfold aM;rw[ho];exact this
 ·rename_i op t x y u ho;split at h
  ·rename_i hy;exact .inr ⟨h.1,zur r hp ho hy h.2 hk⟩
  ·left;have:=yf r hp h hk;unfold aM;rw[ho];exact this
 ·cases h
def Zw(r:aq c.nt pin E0 E pf fr)(hp:ep c pin){d:Option Tmp}(h:vv c d K pf)(hk:∀pf' ai E',K pf'->aq c.nt pin E0 E' pf' ai->E'.H=E.H->K' ai E'.H):bB c.nt K' d .skip fr E.H:=by
 cases d with
 |none=>exact hk _ _ _ h r rfl
 |some d=>
  obtain⟨h1,h2⟩:=h;obtain⟨c1,c2⟩:=M4 h1;simp only[bB,aB c1];exact hk _ _ E h2 (r.set c1 (λw hw=>c2 (hp.h d w hw)) (GK.refl E) (λs _ _=>.refl _) (fU.refl E) r.wf r.fresh (by show(fr.put d .skip) d=.skip;simp[FR.put]) (λs hs=>by cases hs)) rfl
def Y0(r:aq nt pin E0 E pf fr){j:Nat}{y:Option Bool}(h:Bm pf pre[j]? =J y):ou fr pre j=J y:=by
 unfold Bm at h;split at h
 ·rename_i d hd;unfold ou;rw[hd];simp only;have hf:=r.f d;unfold Jf at h;split at h
  ·rename_i b hb;rw[hb]at hf;obtain⟨v,h1,h2⟩:=gi hf (by simp);cases h2;rw[h1];exact h
  ·rename_i hb;rw[hb]at hf;have hf:fr d=.skip:=hf;rw[hf];exact h
  ·cases h
 ·cases h
def zvQ(r:aq c.nt pin E0 E pf fr)(hp:ep c pin)(h:zj P c pre o K pf)
(hk:∀pf' ai E',K pf'->aq c.nt pin E0 E' pf' ai->K' ai E'.H):zk P c.nt pre o K' fr E.H:=by
 unfold zj at h;unfold zk;split at h
 ·rename_i hg;rw[hg];rcases Oe r hp h hk with h|h
  ·exact .inl h
  ·exact .inr h.2
 ·rename_i j b hg;rw[hg];simp only;unfold lX at h;split at h
  ·rename_i y hy;rw[Y0 r hy];simp only;split at h
   ·rename_i e;rw[aB e];rcases Oe r hp h hk with h|h
    ·exact .inl h
    ·exact .inr h.2
   ·rename_i e;rw[az e];exact Zw r hp h λpf' ai E' a b _=>hk pf' ai E' a b
  ·cases h
def zv7(hp:ep c pin) :∀{l:List Oper}{E:Env}{pf:ah}{fr:FR}{K:ah->Prop}{K':FR->AH->Prop},aq c.nt pin E0 E pf fr->Ck P c pre l K pf->
 (∀pf' ai E',K pf'->aq c.nt pin E0 E' pf' ai->K' ai E'.H)->nk P c.nt pre l K' fr E.H:=by
 intro l;induction l with
 |nil=>intro E pf fr K K' r h hk;exact hk _ _ _ h r
 |cons o l ih=>
  intro E pf fr K K' r h hk;rw[Vu];exact zvQ r hp h λpf' ai E' a b=>ih b a hk
def r6{nt:Nat}{d:Option Tmp}{x:FV}{fr:FR}{H H0:AH}(he:ft H0 H)(h:bB nt K' d x fr H):bB nt (λai H'=>ft H0 H'/\K' ai H') d x fr H:=by
 unfold bB at h⊢;split at h
 ·split at h
  ·rename_i hd;simp only[hd,eP];exact⟨he,h⟩
  ·cases h
 ·exact⟨he,h⟩
def zB5{H:AH}(hw:mJ H)(he:gK o.op=Z)(hc:∀f args ts,o.op≠.call ⟨.value f,args,ts⟩)(h:aM P nt o K' fr H):aM P nt o (λai H'=>ft H H'/\K' ai H') fr H:=by
 have L3:∀{o:Oper},dA P nt o K' fr H->dA P nt o (λai H'=>ft H H'/\K' ai H') fr H:=by
  intro o h;unfold dA at h⊢;split at h
  ·split at h
   ·rename_i hm;split at h
    ·rename_i hv;exact r6 (S9 hw hm) h
    ·cases h
   ·cases h
  ·cases h
 unfold aM at h⊢;split at h
 ·rename_i ho;split at h
  ·rename_i v hv;exact r6 (.refl H) h
  ·cases h
 ·split at h
  ·exact r6 (.refl H) h
  ·cases h
 ·split at h
  ·exact r6 (.refl H) h
  ·cases h
 ·refine h.imp (λh=>?_) λ⟨u,l,es,cs,k,j,e,g,r,a1,a2,a3,a4,a5,a6,a7⟩=>⟨u,l,es,cs,k,j,e,g,r,a1,a2,a3,a4,a5,a6,r6 ⟨C8 _,λid k hk=>?_⟩ a7⟩
  ·split at h
   ·exact r6 (.refl H) h
   ·cases h
  ·have:=hw id k hk;simp only[AH.push];rw[az (by omega)];exact hk
 ·split at h
  ·split at h
   ·rename_i uc;rw[aB uc];exact⟨.refl H,h⟩
   ·cases h
  ·cases h
 ·split at h
  ·split at h
   ·rename_i uc;rw[aB uc];exact⟨.refl H,h⟩
   ·cases h
  ·cases h
 ·split at h
  ·rename_i hm;split at h
   ·split at h
    ·rename_i uc;rw[aB uc];split at h
     ·rename_i hf;exact⟨S9 hw hm,h⟩
     ·cases h
    ·cases h
   ·cases h
  ·cases h
 ·rename_i ho;rw[ho]at he;cases he
 ·split at h
  ·split at h
   ·rename_i hv;exact r6 (.refl H) h
   ·cases h
  ·split at h
   ·rename_i hv;exact r6 (.refl H) h
   ·cases h
  ·cases h
 ·split at h
  ·split at h
   ·split at h
    ·rename_i uc;rw[aB uc];refine r6 ⟨C8 _,λid k hk=>?_⟩ h;have:=hw id k hk;simp only[AH.push];rw[az (by omega)];exact hk
    ·cases h
   ·cases h
  ·cases h
 ·rename_i ho;rw[ho]at he;cases he
 ·rename_i ho;rw[ho]at he;cases he
 ·rename_i f args ts ho;exact absurd ho (hc f args _)
 ·split at h
  ·exact r6 (.refl H) h
  ·exact L3 h
 ·split at h
  ·exact r6 (.refl H) h
  ·exact L3 h
 ·exact h.imp L3 λ⟨h1,l,ns,h2,h3⟩=>⟨h1,l,ns,h2,r6 (.refl H) h3⟩
 ·exact L3 h
end
end Go.Pm
