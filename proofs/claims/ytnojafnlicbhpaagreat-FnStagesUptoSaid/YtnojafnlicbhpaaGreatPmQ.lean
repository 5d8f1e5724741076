import Derived.Test.YtnojafnlicbhpaaGreatPmP
namespace Go.Pm
set_option linter.defProp false
open Go.Am
open Bool renaming false→aa,true→Z
open Option renaming none→ae,some→J
def aY.Bk(c:aY):aY:={c with hp:=[]}
def Sn(P:Program)(c:aY)(o:Oper)(K:ah->Prop)(pf:ah):List Operand->Array TypeId->Prop
 |[x],⟨[t]⟩=>if dU P t=Z then kT P c o K pf else Cz P c t x o.dst K pf
 |_,_=>False
def S9(P:Program)(c:aY)(d:Option Tmp)(K:ah->Prop)(pf:ah):List Operand->Array TypeId->Prop
 |[s,x],⟨[t,t']⟩=>if t=t' then EX P c t s x d K pf else I4 P c t t' s x d K pf
 |_,_=>False
def ny(P:Program)(c:aY)(o:Oper)(K:ah->Prop)(pf:ah):Prop:=
 match o.op with
 | .load t a=>EN P c t a o.dst K pf
 | .store t a x=>Ev P c t a x o.dst K pf
 | .fieldAddr s x f=>XV P c s x f o.dst K pf
 | .indexAddr t x i=>EY P c t x i o.dst K pf
 | .nilCheck x=>WY c x o.dst K pf
 | .alloc e=>Fo P c e o.dst K pf
 | .box e x=>DQ P c e x o.dst K pf
 | .buildSlice t len ps=>Fh P c t len ps.toList o.dst K pf
 | .build t ps=>EO P c t ps.toList o.dst K pf
 | .pick b x y=>Df c b x y o.dst K pf
 | .makeSlice t l cc=>F4 P c t l cc o.dst K pf
 | .makeFunc fn xs ys=>D2 c fn xs.toList ys.toList o.dst K pf
 | .move x=>tn (cR P o.type) c x o.dst K pf
 | .assign x=>FZ (cR P o.type) c x o.dst K pf
 | .extract x i=>EF c x i o.dst K pf
 | .slice t x l h m=>if dU P t=Z then kT P c o K pf else Ed P c t x l h m o.dst K pf
 | .call ⟨.builtin .len,args,ts⟩=>Sn P c o K pf args.toList ts
 | .call ⟨.builtin .append,args,ts⟩=>S9 P c o.dst K pf args.toList ts
 | .call ⟨.builtin .clear,args,ts⟩=>KS P c o.dst K pf args.toList ts
 | .call ⟨.value f,args,ts⟩=>Yu P c f args.toList ts.toList o.dst K pf
 | .convert s t x=>if dU P t=Z then(c.hp≠[]\/G7 pf x=Z)/\yc P c s t x o.dst K pf else kT P c o K pf
 | .call ⟨.builtin .min,_,_⟩| .call ⟨.builtin .max,_,_⟩| .unOp .. | .index .. =>kT P c o K pf
 | .binOp op t x y _=>if uP y=Z then c.hp≠[]/\BX P c op t x o.dst K pf else kT P c o K pf
 |_=>False
def Hj:PF->Option (Option Bool)
 | .v (.bool b)=>J (J b)
 | .skip=>J ae
 |_=>ae
def CY(pf:ah):Option (Option Tmp)->Option (Option Bool)
 |some (J d)=>Hj (pf d)
 |_=>ae
def uG(c:aY)(d:Option Tmp)(K:ah->Prop)(pf:ah):Prop:=
 match d with
 |some d=>gG c d .skip=Z/\K (pf.put d .skip)
 |none=>K pf
def lm(c:aY)(b:Bool)(d:Option Tmp)(run:Prop)(K:ah->Prop)(pf:ah):Option (Option Bool)->Prop
 |some y=>if y=J b then run else uG c d K pf
 |none=>False
def yL(P:Program)(c:aY)(pre:List (Option Tmp))(o:Oper)(K:ah->Prop)(pf:ah):Prop:=
 match o.guard with
 |none=>ny P c o K pf
 |some (j,b)=>lm c b o.dst (ny P c o K pf) K pf (CY pf pre[j]?)
def C0(P:Program)(c:aY)(pre:List (Option Tmp)):List Oper->(ah->Prop)->ah->Prop
 |[],K,pf=>K pf
 |o::r,K,pf=>yL P c pre o (C0 P c pre r K) pf
def N4:PF->Bool
 | .v x=> !dr x
 |_=>aa
def Mx:Option PV->Bool
 |some x=> !dr x
 |none=>aa
def lq(pf:ah)(rg:List Nat)(ls:Bool)(t:Nat):PF->Bool
 | .v x=> !dr x
 | .skip=>Z
 | .ls _ _=>ls
 | .bl _=>rg.contains t
 | .pt s p _ _=>rg.contains s||(N4 (pf s)|| !p.isEmpty)
 | .rf s p=>Mx (cb pf s p)
 | .rv _ _ _ _| .ra _ _ _ _ _| .cl _ _ _=>Z
 | .as b _ _ _ _ _=>ls||b
def HR:PF->Bool
 | .bl _=>Z
 |_=>aa
def Cn(pf:ah):PF->Bool
 | .bl _| .skip=>Z
 | .pt s [] _ _=>HR (pf s)
 |_=>aa
def Cd(pf:ah):Option Nat->Bool
 |some t=>Cn pf (pf t)
 |none=>Z
def xf(pf:ah)(rg:List Nat)(ls:Bool):List Nat->Bool
 |[]=>Z
 |t::r=>lq pf rg ls t (pf t)&&xf pf rg ls r
def gT:Op->Bool
 | .store .. =>aa
 | .call ⟨.builtin .append,_,_⟩=>aa
 | .call ⟨.builtin .copy,_,_⟩=>aa
 |_=>Z
def rJ(P:Program)(c:aY)(ext:Bool)(o:Oper)(K:ah->Prop)(pf:ah):Prop:=
 match o.op with
 | .call ⟨.value f,args,ts⟩=>if ext=Z then I3 P c f args.toList ts.toList o.dst K pf (List.replicate args.toList.length .sh)else ny P c.Bk o K pf
 |_=>(ext=Z->gT o.op=Z)/\ny P c.Bk o K pf
def HE(P:Program)(c:aY)(pre:List (Option Tmp))(ext:Bool)(o:Oper)(K:ah->Prop)(pf:ah):Prop:=
 match o.guard with
 |none=>rJ P c ext o K pf
 |some (j,b)=>lm c b o.dst (rJ P c ext o K pf) K pf (CY pf pre[j]?)
def Ep(P:Program)(c:aY)(pre:List (Option Tmp))(e:DE)(o:Oper)(K:ah->Prop)(pf:ah):Prop:=
 (xf pf e.rg e.ls e.sl&&Cd pf e.mr)=Z/\HE P c pre e.ex o K pf
def EB(P:Program)(c:aY)(pre:List (Option Tmp)):List (DE×Oper)->(ah->Prop)->ah->Prop
 |[],K,pf=>K pf
 |(e,o)::r,K,pf=>Ep P c pre e o (EB P c pre r K) pf
inductive n9:ah->ah->Prop where
 |w {bW pf:ah}(h:∀t,bW t=pf t\/bW t=jP):n9 bW pf
 |f {bW pf:ah}(s:Nat) (x:PV) (hs:pf s=.v x) (hx:dr x=aa) (h:n9 bW ((pf.bU s (.v (drop x))).kill s 0)):n9 bW pf
 |g {bW pf aQ:ah}(s:Nat) (p:aA) (x:PV) (hp:p≠[]) (hs:cb pf s p=J x) (hx:dr x=aa) (h1:iy pf s p (drop x)=J aQ) (h:n9 bW aQ):n9 bW pf
def aq.wk{nt:Nat}{pin:List (Nat×Value)}{E0:Env}{fr:FR}:∀{bW pf:ah},n9 bW pf->∀{E:Env},aq nt pin E0 E pf fr->∃E',aq nt pin E0 E' bW fr/\E'.H=E.H:=by
 intro bW pf h;induction h with
 |w h=>intro E r;exact⟨E,r.YY h,rfl⟩
 |f s x hs hx _ ih=>
  intro E r;rename_i pf _;have sM:=oN hx
  have ht:s<nt:=by
   rcases dK s nt with h1|h1
   ·exact h1
   ·have:=r.hi s h1;rw[hs]at this;cases this;exact absurd rfl sM
  obtain⟨v,a1,a2,a3⟩:=r.Fa (s:=s) (p:=[]) ht (by simp[cb,hs,fD,iF]) sM (.inr ⟨x,hs⟩) rfl;obtain⟨E',b1,b2⟩:=ih a2;exact⟨E',b1,b2⟩
 |g s p x hp hs hx h1 _ ih=>
  intro E r
  have ht:s<nt:=by
   rcases dK s nt with h2|h2
   ·exact h2
   ·have:=r.hi s h2;cases p with
    |nil=>exact absurd rfl hp
    |cons a p=>rw[cb,this]at hs;cases hs
  obtain⟨v,a1,a2,a3⟩:=r.Fa ht hs (oN hx) (.inl hp) h1;obtain⟨E',b1,b2⟩:=ih a2;exact⟨E',b1,b2⟩
def BL(body:(Exit->ah->Prop)->ah->Prop)(Q:Exit->ah->Prop):Nat->ah->Prop
 |0,_=>False
 |n+1,pf=>∃bW,n9 bW pf/\body (λe pf'=>match e with| .normal=>BL body Q n pf'|e=>Q e pf') bW
def Xg(K:ah->Prop)(Q:Exit->ah->Prop):Exit->ah->Prop
 | .normal,pf=>K pf
 |e,pf=>Q e pf
def Jb(id:Nat)(Q:Exit->ah->Prop):Exit->ah->Prop
 | .exit i,pf=>if i=id then Q .normal pf else Q (.exit i) pf
 |e,pf=>Q e pf
def P8(b:Option Value)(x y:Prop):Prop:=
 match b with
 |some (.bool b)=>if b=Z then x else y
 |_=>False
def gu(P:Program)(c:aY):Code->(Exit->ah->Prop)->ah->Prop
 | .skip,Q=>Q .normal
 | .region _ ops AC,Q=>λpf=>if AC=Z then
  P.follows .mixedOrders=Z/\∃n,BJ (λD=>EB P c (ops.toList.map (·.dst)) (D.map λx=>(x,ops.toList.getD x.i default)) (Q .normal) pf) ops.toList n []
  else C0 P c (ops.toList.map (·.dst)) ops.toList (Q .normal) pf
 | .seq x y,Q=>gu P c x (Xg (λpf=>∃bW,n9 bW pf/\gu P c y Q bW) Q)
 | .cond b x y,Q=>λpf=>∃bW,n9 bW pf/\P8 (cr bW b) (gu P c x Q bW) (gu P c y Q bW)
 | .block id b,Q=>gu P c b (Jb id Q)
 | .loop b,Q=>λpf=>∃n,BL (gu P c b) Q n pf
 | .exit id,Q=>Q (.exit id)
 | .ret,Q=>Q .ret
 |_,_=>λ_=>False
def Gp(pf:ah)(t:Nat):PF->Option (Bool×Nat)->Option (PV×ah)
 | .bl row,J (Z,sz)=>if sz=row.length then J (.agg row,(pf.bU t jP).kill t 0)else ae
 | .bl (x::_),J (aa,_)=>J (x,(pf.bU t jP).kill t 0)
 |_,_=>ae
def B4(P:Program)(pf:ah):ResultVar->Option (PV×ah)
 | .tmp t=>if qX (pf t)=Z then ae else lh pf t (pf t)
 | .cell t ty=>Gp pf t (pf t) (tk P ty)
def tS(P:Program)(pf:ah):List ResultVar->Option (List PV×ah)
 |[]=>J ([],pf)
 |x::xs=>(B4 P pf x).bind λa=>(tS P a.2 xs).map λb=>(a.1::b.1,b.2)
def Jo:List PV->PV
 |[]=>.au
 |[x]=>x
 |x::y::l=>.bO (x::y::l)
def Mo:PF->PV
 | .v y=>y
 |_=>.au
def lY(pf:ah):Nat->List (Md×PV)->List PV
 |_,[]=>[]
 |k,(.io,_)::l=>Mo (pf k)::lY pf (k+1) l
 |k,_::l=>.au::lY pf (k+1) l
def Ei(as:List (Md×PV))(R:PV->List PV->Prop):Option (List PV×ah)->Prop
 |some x=>R (Jo x.1) (lY x.2 0 as)
 |none=>False
def rW(P:Program)(rs:List ResultVar)(as:List (Md×PV))(R:PV->List PV->Prop):Exit->ah->Prop
 | .normal,pf| .ret,pf=>Ei as R (tS P pf rs)
 |_,_=>False
def Er:Option (Md×PV)->PF
 |some a=>.v a.2
 |none=>jP
def qy(as:List (Md×PV)):ah:=λt=>Er as[t]?
def jk:Nat->List (Md×PV)->List Nat
 |_,[]=>[]
 |k,(.io,_)::l=>k::jk (k+1) l
 |k,_::l=>jk (k+1) l
section
variable {nt:Nat}{pin:List (Nat×Value)}{E0 E E':Env}{pf:ah}{fr ai:FR}{c:aY}{P:Program}
variable{K:ah->Prop}{K':FR->AH->Prop}{o:Oper}{pre:List (Option Tmp)}
def KQ(r:aq c.nt pin E0 E pf fr)(hp:ew c pin)(h:ny P c o K pf)
(hk:∀pf' ai E',K pf'->aq c.nt pin E0 E' pf' ai->K' ai E'.H):aM P c.nt o K' fr E.H\/(c.hp≠[]/\fq P c.nt o K' fr E.H):=by
 have hsc:(gp o.op).isSome=Z->kT P c o K pf->dA P c.nt o K' fr E.H:=λ_ h=>xh r hp h hk
 unfold ny at h;split at h
 ·rename_i ho;refine .inl ?_;have:=zuL r hp h hk;unfold aM;rw[ho];exact this
 ·rename_i ho;exact .inl (zsv r ho h hk)
 ·rename_i ho;exact .inl (zt4 r hp ho h hk)
 ·rename_i ho;exact .inl (zsT r hp ho h hk)
 ·rename_i ho;exact .inl (zws r hp ho h hk)
 ·rename_i ho;exact ztT r hp ho h hk
 ·rename_i ho;exact zwr r hp ho h hk
 ·rename_i ho;exact .inl (zwj r hp ho h hk)
 ·rename_i ho;exact .inl (ztB r hp ho h hk)
 ·rename_i ho;exact .inl (zuf r hp ho h hk)
 ·rename_i ho;exact .inl (zux r hp ho h hk)
 ·rename_i ho;exact zua r hp ho h hk
 ·rename_i ho;exact zuk r hp ho h hk
 ·rename_i ho;exact .inl (zrD r hp ho h hk)
 ·rename_i ho;exact .inl (zqs r hp ho h hk)
 ·rename_i ho;split at h
  ·left;have:=xh r hp h hk;unfold aM;rw[ho];exact this
  ·exact .inl (ztu r hp ho h hk)
 ·rename_i args ts ho;left;unfold Sn at h;split at h
  ·rename_i x t ha;split at h
   ·have:=xh r hp h hk;unfold aM;rw[ho];exact this
   ·exact zv8 r hp ho ha h hk
  ·cases h
 ·rename_i args ts ho;unfold S9 at h;split at h
  ·rename_i s x t t' ha;split at h
   ·rename_i wj;subst wj;exact .inl (zwh r hp ho ha h hk)
   ·exact .inr (zuh r hp ho ha h hk)
  ·cases h
 ·rename_i args ts ho;exact .inr (zwq r ho h hk)
 ·rename_i ho;exact .inl (zuu r hp ho h hk)
 ·rename_i s t x ho;split at h
  ·rcases h.1 with h1|h1
   ·exact .inr ⟨h1,VW r hp ho h.2 hk⟩
   ·exact .inl (zBK r ho h1 (VW r hp ho h.2 hk))
  ·left;have:=xh r hp h hk;unfold aM;rw[ho];exact .inl this
 ·rename_i ho;left;have:=xh r hp h hk;unfold aM;rw[ho];exact this
 ·rename_i ho;left;have:=xh r hp h hk;unfold aM;rw[ho];exact this
 ·rename_i ho;left;have:=xh r hp h hk;unfold aM;rw[ho];exact this
 ·rename_i ho;left;have:=xh r hp h hk;unfold aM;rw[ho];exact this
 ·rename_i op t x y u ho;split at h
  ·rename_i hy;exact .inr ⟨h.1,zuB r hp ho hy h.2 hk⟩
  ·left;have:=xh r hp h hk;unfold aM;rw[ho];exact this
 ·cases h
def X3(r:aq c.nt pin E0 E pf fr)(hp:ew c pin){d:Option Tmp}(h:uG c d K pf)(hk:∀pf' ai E',K pf'->aq c.nt pin E0 E' pf' ai->E'.H=E.H->K' ai E'.H):bB c.nt K' d .skip fr E.H:=by
 cases d with
 |none=>exact hk _ _ _ h r rfl
 |some d=>
  obtain⟨h1,h2⟩:=h;obtain⟨c1,c2⟩:=Ok h1;simp only[bB,aB c1];exact hk _ _ E h2 (r.set c1 (λw hw=>c2 (hp.h d w hw)) (GK.refl E) (λs _ _=>.refl _) (fY.refl E) r.wf r.fresh (by show(fr.put d .skip) d=.skip;simp[FR.put]) (λs hs=>by cases hs)) rfl
def Xo(r:aq nt pin E0 E pf fr){j:Nat}{y:Option Bool}(h:CY pf pre[j]? =J y):oC fr pre j=J y:=by
 unfold CY at h;split at h
 ·rename_i d hd;unfold oC;rw[hd];simp only;have hf:=r.f d;unfold Hj at h;split at h
  ·rename_i b hb;rw[hb]at hf;obtain⟨v,h1,h2⟩:=gi hf (by simp);cases h2;rw[h1];exact h
  ·rename_i hb;rw[hb]at hf;have hf:fr d=.skip:=hf;rw[hf];exact h
  ·cases h
 ·cases h
def zvJ(r:aq c.nt pin E0 E pf fr)(hp:ew c pin)(h:yL P c pre o K pf)
(hk:∀pf' ai E',K pf'->aq c.nt pin E0 E' pf' ai->K' ai E'.H):Av P c.nt pre o K' fr E.H:=by
 unfold yL at h;unfold Av;split at h
 ·rename_i hg;rw[hg];rcases KQ r hp h hk with h|h
  ·exact .inl h
  ·exact .inr h.2
 ·rename_i j b hg;rw[hg];simp only;unfold lm at h;split at h
  ·rename_i y hy;rw[Xo r hy];simp only;split at h
   ·rename_i e;rw[aB e];rcases KQ r hp h hk with h|h
    ·exact .inl h
    ·exact .inr h.2
   ·rename_i e;rw[az e];exact X3 r hp h λpf' ai E' a b _=>hk pf' ai E' a b
  ·cases h
def zwt(hp:ew c pin) :∀{l:List Oper}{E:Env}{pf:ah}{fr:FR}{K:ah->Prop}{K':FR->AH->Prop},aq c.nt pin E0 E pf fr->C0 P c pre l K pf->
 (∀pf' ai E',K pf'->aq c.nt pin E0 E' pf' ai->K' ai E'.H)->nj P c.nt pre l K' fr E.H:=by
 intro l;induction l with
 |nil=>intro E pf fr K K' r h hk;exact hk _ _ _ h r
 |cons o l ih=>
  intro E pf fr K K' r h hk;rw[XY];exact zvJ r hp h λpf' ai E' a b=>ih b a hk
def rA{nt:Nat}{d:Option Tmp}{x:FV}{fr:FR}{H H0:AH}(he:fj H0 H)(h:bB nt K' d x fr H):bB nt (λai H'=>fj H0 H'/\K' ai H') d x fr H:=by
 unfold bB at h⊢;split at h
 ·split at h
  ·rename_i hd;simp only[hd,eP];exact⟨he,h⟩
  ·cases h
 ·exact⟨he,h⟩
def zBR{H:AH}(hw:mj H)(he:gT o.op=Z)(hc:∀f args ts,o.op≠.call ⟨.value f,args,ts⟩)(h:aM P nt o K' fr H):aM P nt o (λai H'=>fj H H'/\K' ai H') fr H:=by
 have NS:∀{o:Oper},dA P nt o K' fr H->dA P nt o (λai H'=>fj H H'/\K' ai H') fr H:=by
  intro o h;unfold dA at h⊢;split at h
  ·split at h
   ·rename_i hm;split at h
    ·rename_i hv;exact rA (Tq hw hm) h
    ·cases h
   ·cases h
  ·cases h
 unfold aM at h⊢;split at h
 ·rename_i ho;split at h
  ·rename_i v hv;exact rA (.refl H) h
  ·cases h
 ·split at h
  ·exact rA (.refl H) h
  ·cases h
 ·split at h
  ·exact rA (.refl H) h
  ·cases h
 ·refine h.imp (λh=>?_) λ⟨u,l,es,cs,k,j,e,g,r,a1,a2,a3,a4,a5,a6,a7⟩=>⟨u,l,es,cs,k,j,e,g,r,a1,a2,a3,a4,a5,a6,rA ⟨C7 _,λid k hk=>?_⟩ a7⟩
  ·split at h
   ·exact rA (.refl H) h
   ·cases h
  ·have:=hw id k hk;simp only[AH.push];rw[az (by omega)];exact hk
 ·split at h
  ·split at h
   ·rename_i vw;rw[aB vw];exact⟨.refl H,h⟩
   ·cases h
  ·cases h
 ·split at h
  ·split at h
   ·rename_i vw;rw[aB vw];exact⟨.refl H,h⟩
   ·cases h
  ·cases h
 ·split at h
  ·rename_i hm;split at h
   ·split at h
    ·rename_i vw;rw[aB vw];split at h
     ·rename_i hf;exact⟨Tq hw hm,h⟩
     ·cases h
    ·cases h
   ·cases h
  ·cases h
 ·rename_i ho;rw[ho]at he;cases he
 ·split at h
  ·split at h
   ·rename_i hv;exact rA (.refl H) h
   ·cases h
  ·split at h
   ·rename_i hv;exact rA (.refl H) h
   ·cases h
  ·cases h
 ·split at h
  ·split at h
   ·split at h
    ·rename_i vw;rw[aB vw];refine rA ⟨C7 _,λid k hk=>?_⟩ h;have:=hw id k hk;simp only[AH.push];rw[az (by omega)];exact hk
    ·cases h
   ·cases h
  ·cases h
 ·rename_i ho;rw[ho]at he;cases he
 ·rename_i ho;rw[ho]at he;cases he
 ·rename_i f args ts ho;exact absurd ho (hc f args _)
 ·split at h
  ·exact rA (.refl H) h
  ·exact NS h
 ·split at h
  ·exact rA (.refl H) h
  ·exact NS h
 ·exact h.imp NS λ⟨h1,l,ns,h2,h3⟩=>⟨h1,l,ns,h2,rA (.refl H) h3⟩
 ·exact NS h
end
end Go.Pm
