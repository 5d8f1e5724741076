import Derived.Test.YtnojafnlicbhpaaGreatPmP
open Bool renaming false→aa,true→Z
open Option renaming none→ae,some→J
set_option linter.defProp false
namespace Go.Pm
open Go.Am
def aY.CQ(c:aY):aY:={c with hp:=[]}
def SO(P:Program)(c:aY)(o:Oper)(K:ah->Prop)(pf:ah):List Operand->Array TypeId->Prop
 |[x],⟨[t]⟩=>if eC P t=Z then lU P c o K pf else Cm P c t x o.dst K pf
 |_,_=>False
def Rw(P:Program)(c:aY)(d:Option Tmp)(K:ah->Prop)(pf:ah):List Operand->Array TypeId->Prop
 |[s,x],⟨[t,t']⟩=>if t=t' then GF P c t s x d K pf else K7 P c t t' s x d K pf
 |_,_=>False
def oe(P:Program)(c:aY)(o:Oper)(K:ah->Prop)(pf:ah):Prop:=
 match o.op with
 | .load t a=>Fy P c t a o.dst K pf
 | .store t a x=>FU P c t a x o.dst K pf
 | .fieldAddr s x f=>Zo P c s x f o.dst K pf
 | .indexAddr t x i=>Hg P c t x i o.dst K pf
 | .nilCheck x=>YB c x o.dst K pf
 | .alloc e=>Fr P c e o.dst K pf
 | .box e x=>F3 P c e x o.dst K pf
 | .buildSlice t len ps=>Hb P c t len ps.toList o.dst K pf
 | .build t ps=>Gr P c t ps.toList o.dst K pf
 | .pick b x y=>EH c b x y o.dst K pf
 | .makeSlice t l cc=>G9 P c t l cc o.dst K pf
 | .makeFunc fn xs ys=>GE c fn xs.toList ys.toList o.dst K pf
 | .move x=>tu (cX P o.type) c x o.dst K pf
 | .assign x=>Gj (cX P o.type) c x o.dst K pf
 | .extract x i=>G1 c x i o.dst K pf
 | .slice t x l h m=>if eC P t=Z then lU P c o K pf else G8 P c t x l h m o.dst K pf
 | .call ⟨.builtin .len,args,ts⟩=>SO P c o K pf args.toList ts
 | .call ⟨.builtin .append,args,ts⟩=>Rw P c o.dst K pf args.toList ts
 | .call ⟨.builtin .clear,args,ts⟩=>NG P c o.dst K pf args.toList ts
 | .call ⟨.value f,args,ts⟩=>X8 P c f args.toList ts.toList o.dst K pf
 | .convert s t x=>if eC P t=Z then(c.hp≠[]\/LA pf x=Z)/\y7 P c s t x o.dst K pf else lU P c o K pf
 | .call ⟨.builtin .min,_,_⟩| .call ⟨.builtin .max,_,_⟩| .unOp .. | .index .. =>lU P c o K pf
 | .binOp op t x y _=>if vk y=Z then c.hp≠[]/\Dq P c op t x o.dst K pf else lU P c o K pf
 |_=>False
def Jb:PF->Option (Option Bool)
 | .v (.bool b)=>J (J b)
 | .skip=>J ae
 |_=>ae
def CP(pf:ah):Option (Option Tmp)->Option (Option Bool)
 |some (J d)=>Jb (pf d)
 |_=>ae
def xt(c:aY)(d:Option Tmp)(K:ah->Prop)(pf:ah):Prop:=
 match d with
 |some d=>ic c d .skip=Z/\K (pf.put d .skip)
 |none=>K pf
def me(c:aY)(b:Bool)(d:Option Tmp)(run:Prop)(K:ah->Prop)(pf:ah):Option (Option Bool)->Prop
 |some y=>if y=J b then run else xt c d K pf
 |none=>False
def A3(P:Program)(c:aY)(pre:List (Option Tmp))(o:Oper)(K:ah->Prop)(pf:ah):Prop:=
 match o.guard with
 |none=>oe P c o K pf
 |some (j,b)=>me c b o.dst (oe P c o K pf) K pf (CP pf pre[j]?)
def D8(P:Program)(c:aY)(pre:List (Option Tmp)):List Oper->(ah->Prop)->ah->Prop
 |[],K,pf=>K pf
 |o::r,K,pf=>A3 P c pre o (D8 P c pre r K) pf
def Oc:PF->Bool
 | .v x=> !dB x
 |_=>aa
def OO:Option PV->Bool
 |some x=> !dB x
 |none=>aa
def l7(pf:ah)(rg:List Nat)(ls:Bool)(t:Nat):PF->Bool
 | .v x=> !dB x
 | .skip=>Z
 | .ls _ _=>ls
 | .bl _=>rg.contains t
 | .pt s p _ _=>rg.contains s||(Oc (pf s)|| !p.isEmpty)
 | .rf s p=>OO (cn pf s p)
 | .rv _ _ _ _| .ra _ _ _ _ _| .cl _ _ _=>Z
 | .as b _ _ _ _ _=>ls||b
def Km:PF->Bool
 | .bl _=>Z
 |_=>aa
def Ce(pf:ah):PF->Bool
 | .bl _| .skip=>Z
 | .pt s [] _ _=>Km (pf s)
 |_=>aa
def DR(pf:ah):Option Nat->Bool
 |some t=>Ce pf (pf t)
 |none=>Z
def yT(pf:ah)(rg:List Nat)(ls:Bool):List Nat->Bool
 |[]=>Z
 |t::r=>l7 pf rg ls t (pf t)&&yT pf rg ls r
def hZ:Op->Bool
 | .store .. =>aa
 | .call ⟨.builtin .append,_,_⟩=>aa
 | .call ⟨.builtin .copy,_,_⟩=>aa
 |_=>Z
def sQ(P:Program)(c:aY)(ext:Bool)(o:Oper)(K:ah->Prop)(pf:ah):Prop:=
 match o.op with
 | .call ⟨.value f,args,ts⟩=>if ext=Z then HZ P c f args.toList ts.toList o.dst K pf (List.replicate args.toList.length .sh)else oe P c.CQ o K pf
 |_=>(ext=Z->hZ o.op=Z)/\oe P c.CQ o K pf
def Ip(P:Program)(c:aY)(pre:List (Option Tmp))(ext:Bool)(o:Oper)(K:ah->Prop)(pf:ah):Prop:=
 match o.guard with
 |none=>sQ P c ext o K pf
 |some (j,b)=>me c b o.dst (sQ P c ext o K pf) K pf (CP pf pre[j]?)
def Hr(P:Program)(c:aY)(pre:List (Option Tmp))(e:DE)(o:Oper)(K:ah->Prop)(pf:ah):Prop:=
 (yT pf e.rg e.ls e.sl&&DR pf e.mr)=Z/\Ip P c pre e.ex o K pf
def GT(P:Program)(c:aY)(pre:List (Option Tmp)):List (DE×Oper)->(ah->Prop)->ah->Prop
 |[],K,pf=>K pf
 |(e,o)::r,K,pf=>Hr P c pre e o (GT P c pre r K) pf
inductive oN:ah->ah->Prop where
 |w {b7 pf:ah}(h:∀t,b7 t=pf t\/b7 t=jP):oN b7 pf
 |f {b7 pf:ah}(s:Nat) (x:PV) (hs:pf s=.v x) (hx:dB x=aa) (h:oN b7 ((pf.bY s (.v (drop x))).kill s 0)):oN b7 pf
 |g {b7 pf aR:ah}(s:Nat) (p:aC) (x:PV) (hp:p≠[]) (hs:cn pf s p=J x) (hx:dB x=aa) (h1:iC pf s p (drop x)=J aR) (h:oN b7 aR):oN b7 pf
def av.wk{nt:Nat}{pin:List (Nat×Value)}{E0:Env}{fr:FR}:∀{b7 pf:ah},oN b7 pf->∀{E:Env},av nt pin E0 E pf fr->∃E',av nt pin E0 E' b7 fr/\E'.H=E.H:=by
 intro b7 pf h;induction h with
 |w h=>intro E r;exact⟨E,r.Yt h,rfl⟩
 |f s x hs hx _ ih=>
  intro E r;rename_i pf _;have uf:=oT hx
  have ht:s<nt:=by
   rcases dQ s nt with h1|h1
   ·exact h1
   ·have:=r.hi s h1;rw[hs]at this;cases this;exact absurd rfl uf
  obtain⟨v,a1,a2,a3⟩:=r.Hk (s:=s) (p:=[]) ht (by simp[cn,hs,fV,jb]) uf (.inr ⟨x,hs⟩) rfl;obtain⟨E',b1,b2⟩:=ih a2;exact⟨E',b1,b2⟩
 |g s p x hp hs hx h1 _ ih=>
  intro E r
  have ht:s<nt:=by
   rcases dQ s nt with h2|h2
   ·exact h2
   ·have:=r.hi s h2;cases p with
    |nil=>exact absurd rfl hp
    |cons a p=>rw[cn,this]at hs;cases hs
  obtain⟨v,a1,a2,a3⟩:=r.Hk ht hs (oT hx) (.inl hp) h1;obtain⟨E',b1,b2⟩:=ih a2;exact⟨E',b1,b2⟩
def Di(body:(Exit->ah->Prop)->ah->Prop)(Q:Exit->ah->Prop):Nat->ah->Prop
 |0,_=>False
 |n+1,pf=>∃b7,oN b7 pf/\body (λe pf'=>match e with| .normal=>Di body Q n pf'|e=>Q e pf') b7
def Wz(K:ah->Prop)(Q:Exit->ah->Prop):Exit->ah->Prop
 | .normal,pf=>K pf
 |e,pf=>Q e pf
def JW(id:Nat)(Q:Exit->ah->Prop):Exit->ah->Prop
 | .exit i,pf=>if i=id then Q .normal pf else Q (.exit i) pf
 |e,pf=>Q e pf
def Vc(b:Option Value)(x y:Prop):Prop:=
 match b with
 |some (.bool b)=>if b=Z then x else y
 |_=>False
def gJ(P:Program)(c:aY):Code->(Exit->ah->Prop)->ah->Prop
 | .skip,Q=>Q .normal
 | .region _ ops BJ,Q=>λpf=>if BJ=Z then
  P.follows .mixedOrders=Z/\∃n,Cy (λD=>GT P c (ops.toList.map (·.dst)) (D.map λx=>(x,ops.toList.getD x.i default)) (Q .normal) pf) ops.toList n []
  else D8 P c (ops.toList.map (·.dst)) ops.toList (Q .normal) pf
 | .seq x y,Q=>gJ P c x (Wz (λpf=>∃b7,oN b7 pf/\gJ P c y Q b7) Q)
 | .cond b x y,Q=>λpf=>∃b7,oN b7 pf/\Vc (cu b7 b) (gJ P c x Q b7) (gJ P c y Q b7)
 | .block id b,Q=>gJ P c b (JW id Q)
 | .loop b,Q=>λpf=>∃n,Di (gJ P c b) Q n pf
 | .exit id,Q=>Q (.exit id)
 | .ret,Q=>Q .ret
 |_,_=>λ_=>False
def EZ(pf:ah)(t:Nat):PF->Option (Bool×Nat)->Option (PV×ah)
 | .bl row,J (Z,sz)=>if sz=row.length then J (.agg row,(pf.bY t jP).kill t 0)else ae
 | .bl (x::_),J (aa,_)=>J (x,(pf.bY t jP).kill t 0)
 |_,_=>ae
def Cd(P:Program)(pf:ah):ResultVar->Option (PV×ah)
 | .tmp t=>if rG (pf t)=Z then ae else mn pf t (pf t)
 | .cell t ty=>EZ pf t (pf t) (tk P ty)
def ua(P:Program)(pf:ah):List ResultVar->Option (List PV×ah)
 |[]=>J ([],pf)
 |x::xs=>(Cd P pf x).bind λa=>(ua P a.2 xs).map λb=>(a.1::b.1,b.2)
def Jk:List PV->PV
 |[]=>.ax
 |[x]=>x
 |x::y::l=>.bS (x::y::l)
def Ni:PF->PV
 | .v y=>y
 |_=>.ax
def lY(pf:ah):Nat->List (Md×PV)->List PV
 |_,[]=>[]
 |k,(.io,_)::l=>Ni (pf k)::lY pf (k+1) l
 |k,_::l=>.ax::lY pf (k+1) l
def G0(as:List (Md×PV))(R:PV->List PV->Prop):Option (List PV×ah)->Prop
 |some x=>R (Jk x.1) (lY x.2 0 as)
 |none=>False
def uc(P:Program)(rs:List ResultVar)(as:List (Md×PV))(R:PV->List PV->Prop):Exit->ah->Prop
 | .normal,pf| .ret,pf=>G0 as R (ua P pf rs)
 |_,_=>False
def Ga:Option (Md×PV)->PF
 |some a=>.v a.2
 |none=>jP
def r8(as:List (Md×PV)):ah:=λt=>Ga as[t]?
def j3:Nat->List (Md×PV)->List Nat
 |_,[]=>[]
 |k,(.io,_)::l=>k::j3 (k+1) l
 |k,_::l=>j3 (k+1) l
section
variable {nt:Nat}{pin:List (Nat×Value)}{E0 E E':Env}{pf:ah}{fr ak:FR}{c:aY}{P:Program}
variable{K:ah->Prop}{K':FR->AH->Prop}{o:Oper}{pre:List (Option Tmp)}
def NK(r:av c.nt pin E0 E pf fr)(hp:eG c pin)(h:oe P c o K pf)
(hk:∀pf' ak E',K pf'->av c.nt pin E0 E' pf' ak->K' ak E'.H):aP P c.nt o K' fr E.H\/(c.hp≠[]/\fC P c.nt o K' fr E.H):=by
 have hsc:(gG o.op).isSome=Z->lU P c o K pf->dE P c.nt o K' fr E.H:=λ_ h=>yO r hp h hk
 unfold oe at h;split at h
 ·rename_i ho;refine .inl ?_;have:=zua r hp h hk;unfold aP;rw[ho];exact this
 ·rename_i ho;exact .inl (ztw r ho h hk)
 ·rename_i ho;exact .inl (ztn r hp ho h hk)
 ·rename_i ho;exact .inl (zt4 r hp ho h hk)
 ·rename_i ho;exact .inl (zwF r hp ho h hk)
 ·rename_i ho;exact zsY r hp ho h hk
 ·rename_i ho;exact zwN r hp ho h hk
 ·rename_i ho;exact .inl (zwb r hp ho h hk)
 ·rename_i ho;exact .inl (zt5 r hp ho h hk)
 ·rename_i ho;exact .inl (zui r hp ho h hk)
 ·rename_i ho;exact .inl (zue r hp ho h hk)
 ·rename_i ho;exact zuN r hp ho h hk
 ·rename_i ho;exact zul r hp ho h hk
 ·rename_i ho;exact .inl (zrD r hp ho h hk)
 ·rename_i ho;exact .inl (zqY r hp ho h hk)
 ·rename_i ho;split at h
  ·left;have:=yO r hp h hk;unfold aP;rw[ho];exact this
  ·exact .inl (ztx r hp ho h hk)
 ·rename_i args ts ho;left;unfold SO at h;split at h
  ·rename_i x t ha;split at h
   ·have:=yO r hp h hk;unfold aP;rw[ho];exact this
   ·exact zvP r hp ho ha h hk
  ·cases h
 ·rename_i args ts ho;unfold Rw at h;split at h
  ·rename_i s x t t' ha;split at h
   ·rename_i yo;subst yo;exact .inl (zwg r hp ho ha h hk)
   ·exact .inr (zuk r hp ho ha h hk)
  ·cases h
 ·rename_i args ts ho;exact .inr (zv1 r ho h hk)
 ·rename_i ho;exact .inl (zuv r hp ho h hk)
 ·rename_i s t x ho;split at h
  ·rcases h.1 with h1|h1
   ·exact .inr ⟨h1,Y9 r hp ho h.2 hk⟩
   ·exact .inl (zBk r ho h1 (Y9 r hp ho h.2 hk))
  ·left;have:=yO r hp h hk;unfold aP;rw[ho];exact .inl this
 ·rename_i ho;left;have:=yO r hp h hk;unfold aP;rw[ho];exact this
 ·rename_i ho;left;have:=yO r hp h hk;unfold aP;rw[ho];exact this
 ·rename_i ho;left;have:=yO r hp h hk;unfold aP;rw[ho];exact this
 ·rename_i ho;left;have:=yO r hp h hk;unfold aP;rw[ho];exact this
 ·rename_i op t x y u ho;split at h
  ·rename_i hy;exact .inr ⟨h.1,zuH r hp ho hy h.2 hk⟩
  ·left;have:=yO r hp h hk;unfold aP;rw[ho];exact this
 ·cases h
def zoT(r:av c.nt pin E0 E pf fr)(hp:eG c pin){d:Option Tmp}(h:xt c d K pf)(hk:∀pf' ak E',K pf'->av c.nt pin E0 E' pf' ak->E'.H=E.H->K' ak E'.H):bC c.nt K' d .skip fr E.H:=by
 cases d with
 |none=>exact hk _ _ _ h r rfl
 |some d=>
  obtain⟨h1,h2⟩:=h;obtain⟨c1,c2⟩:=MQ h1;simp only[bC,aD c1];exact hk _ _ E h2 (r.set c1 (λw hw=>c2 (hp.h d w hw)) (GK.refl E) (λs _ _=>.refl _) (gn.refl E) r.wf r.fresh (by show(fr.put d .skip) d=.skip;simp[FR.put]) (λs hs=>by cases hs)) rfl
def Yj(r:av nt pin E0 E pf fr){j:Nat}{y:Option Bool}(h:CP pf pre[j]? =J y):py fr pre j=J y:=by
 unfold CP at h;split at h
 ·rename_i d hd;unfold py;rw[hd];simp only;have hf:=r.f d;unfold Jb at h;split at h
  ·rename_i b hb;rw[hb]at hf;obtain⟨v,h1,h2⟩:=gA hf (by simp);cases h2;rw[h1];exact h
  ·rename_i hb;rw[hb]at hf;have hf:fr d=.skip:=hf;rw[hf];exact h
  ·cases h
 ·cases h
def zwH(r:av c.nt pin E0 E pf fr)(hp:eG c pin)(h:A3 P c pre o K pf)
(hk:∀pf' ak E',K pf'->av c.nt pin E0 E' pf' ak->K' ak E'.H):BI P c.nt pre o K' fr E.H:=by
 unfold A3 at h;unfold BI;split at h
 ·rename_i hg;rw[hg];rcases NK r hp h hk with h|h
  ·exact .inl h
  ·exact .inr h.2
 ·rename_i j b hg;rw[hg];simp only;unfold me at h;split at h
  ·rename_i y hy;rw[Yj r hy];simp only;split at h
   ·rename_i e;rw[aD e];rcases NK r hp h hk with h|h
    ·exact .inl h
    ·exact .inr h.2
   ·rename_i e;rw[aB e];exact zoT r hp h λpf' ak E' a b _=>hk pf' ak E' a b
  ·cases h
def zwl(hp:eG c pin) :∀{l:List Oper}{E:Env}{pf:ah}{fr:FR}{K:ah->Prop}{K':FR->AH->Prop},av c.nt pin E0 E pf fr->D8 P c pre l K pf->
 (∀pf' ak E',K pf'->av c.nt pin E0 E' pf' ak->K' ak E'.H)->nr P c.nt pre l K' fr E.H:=by
 intro l;induction l with
 |nil=>intro E pf fr K K' r h hk;exact hk _ _ _ h r
 |cons o l ih=>
  intro E pf fr K K' r h hk;rw[zrl];exact zwH r hp h λpf' ak E' a b=>ih b a hk
def se{nt:Nat}{d:Option Tmp}{x:FV}{fr:FR}{H H0:AH}(he:fJ H0 H)(h:bC nt K' d x fr H):bC nt (λak H'=>fJ H0 H'/\K' ak H') d x fr H:=by
 unfold bC at h⊢;split at h
 ·split at h
  ·rename_i hd;simp only[hd,e9];exact⟨he,h⟩
  ·cases h
 ·exact⟨he,h⟩
def zB0{H:AH}(hw:mJ H)(he:hZ o.op=Z)(hc:∀f args ts,o.op≠.call ⟨.value f,args,ts⟩)(h:aP P nt o K' fr H):aP P nt o (λak H'=>fJ H H'/\K' ak H') fr H:=by
 have O4:∀{o:Oper},dE P nt o K' fr H->dE P nt o (λak H'=>fJ H H'/\K' ak H') fr H:=by
  intro o h;unfold dE at h⊢;split at h
  ·split at h
   ·rename_i hm;split at h
    ·rename_i hv;exact se (Vn hw hm) h
    ·cases h
   ·cases h
  ·cases h
 unfold aP at h⊢;split at h
 ·rename_i ho;split at h
  ·rename_i v hv;exact se (.refl H) h
  ·cases h
 ·split at h
  ·exact se (.refl H) h
  ·cases h
 ·split at h
  ·exact se (.refl H) h
  ·cases h
 ·refine h.imp (λh=>?_) λ⟨u,l,es,cs,k,j,e,g,r,a1,a2,a3,a4,a5,a6,a7⟩=>⟨u,l,es,cs,k,j,e,g,r,a1,a2,a3,a4,a5,a6,se ⟨Et _,λid k hk=>?_⟩ a7⟩
  ·split at h
   ·exact se (.refl H) h
   ·cases h
  ·have:=hw id k hk;simp only[AH.push];rw[aB (by omega)];exact hk
 ·split at h
  ·split at h
   ·rename_i vq;rw[aD vq];exact⟨.refl H,h⟩
   ·cases h
  ·cases h
 ·split at h
  ·split at h
   ·rename_i vq;rw[aD vq];exact⟨.refl H,h⟩
   ·cases h
  ·cases h
 ·split at h
  ·rename_i hm;split at h
   ·split at h
    ·rename_i vq;rw[aD vq];split at h
     ·rename_i hf;exact⟨Vn hw hm,h⟩
     ·cases h
    ·cases h
   ·cases h
  ·cases h
 ·rename_i ho;rw[ho]at he;cases he
 ·split at h
  ·split at h
   ·rename_i hv;exact se (.refl H) h
   ·cases h
  ·split at h
   ·rename_i hv;exact se (.refl H) h
   ·cases h
  ·cases h
 ·split at h
  ·split at h
   ·split at h
    ·rename_i vq;rw[aD vq];refine se ⟨Et _,λid k hk=>?_⟩ h;have:=hw id k hk;simp only[AH.push];rw[aB (by omega)];exact hk
    ·cases h
   ·cases h
  ·cases h
 ·rename_i ho;rw[ho]at he;cases he
 ·rename_i ho;rw[ho]at he;cases he
 ·rename_i f args ts ho;exact absurd ho (hc f args _)
 ·split at h
  ·exact se (.refl H) h
  ·exact O4 h
 ·split at h
  ·exact se (.refl H) h
  ·exact O4 h
 ·exact h.imp O4 λ⟨h1,l,ns,h2,h3⟩=>⟨h1,l,ns,h2,se (.refl H) h3⟩
 ·exact O4 h
end
end Go.Pm
