import Derived.Test.YtnojafnlicbhpaaGreatPmM
open Bool renaming false→aa,true→Z
open Option renaming none→ae,some→J
set_option linter.defProp false
namespace Go.Pm
open Go.Am
def ia:=@List.length_nil
def ri:=@Nat.mul_le_mul
def OA:=@List.drop_zero
def OB:=@Nat.div_add_mod
def Aav:=@Nat.div_lt_of_lt_mul
def Aca:=@List.replicate_succ
def Acb:=@List.length_replicate
def y9(es:Nat):PV->Option (List (List PV))
 | .sl Z bw rows=>if bw=es then J rows else ae
 |_=>ae
def qq(rows:List (List PV)):Bool:=rows.all (·.all λx=> !bL x)
def nJ(rows:List (List PV)):Bool:=rows.all (·.all qR)
def qJ(es:Nat):PV->Option (List (List PV))
 | .sl Z bw rows=>if bw=es/\qq rows=Z then J rows else ae
 | .sl aa bw rows=>if bw=es then J rows else ae
 |_=>ae
def qm(es:Nat)(pf:ah)(t:Nat):PF->Option (List (List PV)×ah)
 | .ls bw rows=>if bw=es then J (rows,(pf.bU t jP).kill t 0)else ae
 |y=>(dM pf y).bind λx=>(qJ es x).map λrows=>(rows,pf)
def pI(es:Nat)(pf:ah):Operand->Option (List (List PV)×ah)
 | .tmp t=>if t<0 then ae else qm es pf t (pf t)
 | .const (.slice ae 0 0)=>J ([],pf)
 |_=>ae
def Nb(c:aY)(z:Nat×Nat×List PV)(d:Option Tmp)(K:ah->Prop)(rows:List (List PV)):Option (List (List PV)×ah)->Prop
 |some (rows2,bW)=>nJ rows2=Z/\((rows.length+rows2.length)*z.2.1<=140737488355328/\rows.length+rows2.length<=4611686018427387904)/\
  dB c K d (.v (.sl Z z.1 (rows++rows2))) bW
 |none=>False
def KV(c:aY)(z:Nat×Nat×List PV)(x:Operand)(d:Option Tmp)(K:ah->Prop):Option (PV×ah)->Prop
 |some (b,aQ)=>match y9 z.1 b with
  |some rows=>Nb c z d K rows (pI z.1 aQ x)
  |none=>False
 |none=>False
def FK(P:Program)(c:aY)(t:TypeId)(s x:Operand)(d:Option Tmp)(K:ah->Prop)(pf:ah):Prop:=
 match ez P t with
 |some z=>KV c z x d K (ew z.1 pf s)
 |none=>False
def Y6:PF->Bool
 | .v _| .rf _ _=>Z
 |_=>aa
def T2(c:aY)(z:Nat×Nat×List PV)(d:Tmp)(n:Nat)(K:ah->Prop):Option (PV×ah)->Prop
 |some (b,aQ)=>match y9 z.1 b with
  |some rows=>(nJ [uz (rL c (J d)) z.2.2]=Z/\(rows.length+n)*z.2.1<=140737488355328/\rows.length+n<=4611686018427387904)/\dB c K (J d) (.v (.sl Z z.1 (rows++List.replicate n (uz (rL c (J d)) z.2.2)))) aQ
  |none=>False
 |none=>False
def Hb(P:Program)(c:aY)(t t':TypeId)(s x:Operand)(d:Option Tmp)(K:ah->Prop)(pf:ah):Prop:=
 match d,ez P t,cu pf x,s with
 |some d,J z,J (.int .i64 n),.tmp q=>(c.hp≠[]/\(jW P t').isSome=Z/\Y6 (pf q)=Z/\0<n/\(z.2.1:Int)*n<=140737488355328/\n<=4611686018427387904)/\T2 c z d n.toNat K (ew z.1 pf (.tmp q))
 |_,_,_,_=>False
def YZ(P:Program)(t:TypeId)(pf:ah):PF->Option ah
 | .rv s [] lo hi=>match ez P t,pf s with
  |some (1,_,[.int k n]),.v (.sl Z 1 rows)=>if lo<hi/\hi<=rows.length then J ((pf.bU s (.v (.sl Z 1 (rows.take lo++(List.replicate (hi-lo) [.int k n]++rows.drop hi))))).kill s 1)else ae
  |_,_=>ae
 |_=>ae
def PN(c:aY)(K:ah->Prop):Option ah->Prop
 |some pf'=>c.hp≠[]/\K pf'
 |none=>False
def M4(P:Program)(c:aY)(d:Option Tmp)(K:ah->Prop)(pf:ah):List Operand->Array TypeId->Prop
 |[.tmp q],⟨[t]⟩=>d=ae/\PN c K (YZ P t pf (pf q))
 |_,_=>False
def zDZ:List PV->Option Int
 |[.int .u8 n]=>J n
 |_=>ae
def vy:List (List PV)->Option (List Int)
 |[]=>J []
 |r::rs=>(zDZ r).bind λn=>(vy rs).map (n:: ·)
def AL(P:Program)(s:TypeId)(pf:ah)(x:Operand):Option (PF×ah):=
 if sM P s=Z then(pI 1 pf x).bind λz=>(vy z.1).map λns=>(.v (.str (xL ns)),z.2)else ae
def G0:PF->Bool
 | .ls es _=>es==1
 |_=>aa
def HP(pf:ah):Operand->Bool
 | .tmp u=>G0 (pf u)
 |_=>aa
def xz(P:Program)(c:aY)(s t:TypeId)(x:Operand)(d:Option Tmp)(K:ah->Prop)(pf:ah):Prop:=
 match d,AL P s pf x with
 |some d,J (y,bW)=>dW P t=Z/\dB c K (J d) y bW
 |_,_=>False
section
variable {nt:Nat}{pin:List (Nat×Value)}{E0 E E':Env}{pf:ah}{fr ai:FR}{c:aY}{P:Program}
variable{K:ah->Prop}{K':FR->AH->Prop}{R:Nat×aA}{args:Array Operand}{es n:Nat}{f:Nat×aA->Option (Nat×aA)}{o:Oper}{rows2:List (List PV)}{t:TypeId}{x:Operand}
def zyW:∀{ts us:List Nat}{fr:FR}{H:AH},oY (ts++us) fr H=(oY ts fr H).bind λx=>oY us x.1 x.2:=by
 intro ts;induction ts with
 |nil=>intro us fr H;rfl
 |cons t ts ih=>
  intro us fr H;simp only[tZ,oY];split
  ·exact ih
  ·rfl
def X3{hb:Bool}:∀{xs:List Operand}{E:Env}{pf pf':ah}{fr:FR}{ys:List PV},aq nt pin E0 E pf fr->rS hb pf xs=J (ys,pf')->
 ∃vs ai E' ts,oY ts fr E.H=J (ai,E'.H)/\(hb=aa->ts=[])/\(∀t w,fr t=.v w->ai t=.v w)/\(∀dJ,(∀t w,ai t=.v w->dJ t=.v w)->∀H,ck dJ H xs=J (vs,dJ,H))/\GK E E'/\aq nt pin E0 E' pf' ai/\vs.length=ys.length/\ys.length=xs.length/\∀(k:Nat) (y:PV) (v:Value),ys[k]? =J y->vs[k]? =J v->PR E' ae y v:=by
 intro xs;induction xs with
 |nil=>
  intro E pf pf' fr ys r h;simp only[rS,aT,b9]at h;obtain⟨rfl,rfl⟩:=h;exact⟨[],fr,E,[],rfl,λ_=>rfl,λ_ _ h=>h,λdJ _ H=>rfl,GK.refl E,r,rfl,rfl,λk y v h=>by simp at h⟩
 |cons x xs ih=>
  intro E pf pf' fr ys r h;simp only[rS,bR,bN,b9]at h;obtain⟨⟨y,aQ⟩,h1,⟨QD,bW⟩,h2,rfl,rfl⟩:=h;obtain⟨v,fr1,E1,ts1,l1,e1,s1,m1,g1,r1,p1⟩:=zvV r h1;obtain⟨vs,dJ,E2,ts2,l2,e2,s2,m2,g2,r2,k2,k3,p2⟩:=ih r1 h2;refine⟨v::vs,dJ,E2,ts1++ts2,by rw[zyW,l1];exact l2,λhh=>by rw[e1 hh,e2 hh];rfl,λt w hw=>s2 t w (s1 t w hw),λWG hh H=>?_,g1.trans g2,r2,by simp[k2],by simp[k3],λk z w hz hw=>?_⟩
  ·have a1:=m1 WG (λt w hw=>hh t w (s2 t w hw)) H;have a2:=m2 WG hh H;simp[ck,a1,a2]
  ·cases k with
   |zero=>simp at hz hw;subst hz;subst hw;exact p1.mono g2
   |succ k=>exact p2 k z w (by simpa using hz) (by simpa using hw)
def zuk(r:aq c.nt pin E0 E pf fr)(hp:er c pin){fn:Fn}{xs ys:Array Operand}(ho:o.op=.makeFunc fn xs ys)(h:DU c fn xs.toList ys.toList o.dst K pf)
(hk:∀pf' ai E',K pf'->aq c.nt pin E0 E' pf' ai->K' ai E'.H):aM P c.nt o K' fr E.H\/(c.hp≠[]/\fj P c.nt o K' fr E.H):=by
 obtain⟨d,op,ty,pp,af,g⟩:=o;simp only at ho h;subst ho;unfold DU at h;split at h
 ·split at h
  ·rename_i y aQ hy;obtain⟨⟨gg,s,zs⟩,h1,h2⟩:=bR.1 hy;simp only[Iv,bN,b9]at h2;obtain⟨⟨us,bW⟩,hf,rfl,rfl⟩:=h2;unfold Jd at h1;split at h1
   ·rename_i gg' s' zs' ib zG;split at h1
    ·rename_i row fI;cases h1;obtain⟨v,g1,_⟩:=ga (by have:=r.f s;rw[fI]at this;exact this) (by simp)
     have hs:s<c.nt:=by
      rcases dK s c.nt with h1|h1
      ·exact h1
      ·have:=r.hi s h1;rw[fI]at this;cases this
     obtain⟨ws,fr1,E1,ts,ly,e1,s1,m1,g2,r1,l1,l2,p1⟩:=X3 r hf;have g3:=s1 s v g1;have hK:=jm (K':=K') r1 hp (y:=.cl s gg us) rfl hs (fv:=.v (.func (.func gg) #[] (v::ws).toArray)) ⟨v,ws,rfl,.inl ⟨v,g3,rfl⟩,l1.symm,p1⟩ h hk;have eA:xs.size=0:=by have:=gn List.length ib;simpa using this
     have hA:dw P c.nt ⟨d,.makeFunc (.func gg) xs ys,ty,pp,af,g⟩ K' fr1 E1.H:=by
      have hm:ck fr1 E1.H (xs.toList++ys.toList)=J (v::ws,fr1,E1.H):=by
       rw[ib,zG];have:=m1 fr1 (λ_ _ h=>h) E1.H;simp[ck,bh,g3,this]
      simp only[dw,gp,hm,eG,eA];exact hK
     cases og:c.hp.isEmpty with
     |true=>
      rw[e1 (by rw[og];rfl)]at ly;simp only[oY,aT,b9]at ly;obtain⟨e2,e3⟩:=ly;rw[<-e2,<-e3]at hA;exact .inl hA
     |false=>
      have hne:c.hp≠[]:=λe=>by rw[e]at og;cases og
      exact .inr ⟨hne,ts,fr1,E1.H,ly,hA⟩
    ·cases h1
   ·cases h1
  ·cases h
 split at h
 ·rename_i vs aQ hf;obtain⟨ws,fr1,E1,ts,ly,e1,s1,m1,g1,r1,l1,l2,p1⟩:=X3 r hf;have eA:xs.size=xs.toList.length:=by simp
  have hv:PR E1 ae (.func fn (vs.take xs.toList.length) (vs.drop xs.toList.length)) (.func fn (ws.take xs.size).toArray (ws.drop xs.size).toArray):=by
   rw[eA];refine .func fn (by simp[l1]) (by simp[l1]) (λi x y a b=>?_) λi x y a b=>?_
   ·have b:(ws.take xs.toList.length)[i]? =J y:=by simpa using b
    rw[l6]at a b;split at a
    ·rename_i hlt;rw[aB hlt]at b;exact p1 i x y a b
    ·cases a
   ·have b:(ws.drop xs.toList.length)[i]? =J y:=by simpa using b
    rw[jd]at a b;exact p1 _ x y a b
  have hK:=gP r1 hp hv.up h hk
  have hA:dw P c.nt ⟨d,.makeFunc fn xs ys,ty,pp,af,g⟩ K' fr1 E1.H:=by
   simp only[dw,gp,m1 fr1 (λ_ _ h=>h),eG];exact hK
  cases og:c.hp.isEmpty with
  |true=>
   rw[e1 (by rw[og];rfl)]at ly;simp only[oY,aT,b9]at ly;obtain⟨e2,e3⟩:=ly;rw[<-e2,<-e3]at hA;exact .inl hA
  |false=>
   have hne:c.hp≠[]:=λe=>by rw[e]at og;cases og
   exact .inr ⟨hne,ts,fr1,E1.H,ly,hA⟩
 ·cases h
structure Fl (E:Env) (es:Nat) (rows:List (List PV)) (new:List Value) (T:Lo) (f:Nat×aA->Option (Nat×aA)) (n:Nat) (R:Nat×aA):Prop where
 len:new.length=rows.length*es
 rl:∀r,r∈rows->r.length=es
 el:∀(i:Nat) (r:List PV) (j:Nat) (x:PV) (y:Value),rows[i]? =J r->r[j]? =J x->new[i*es+j]? =J y->PR E (T.ch i j) x y
 mv:∀a,T=J a->∀i j r,f (a.1,a.2++(i,j)::r)=J (R.1,R.2++(n+i,j)::r)
def PY{cc:Nat}{rows:List (List PV)}{old new cells2:List Value}{T:Lo}{id2:Nat}
(h00:es≠0)(h0:∀(i:Nat) (r:List PV) (j:Nat) (x:PV) (y:Value),rows[i]? =J r->r[j]? =J x->old[i*es+j]? =J y->PR E (J (cO R i j)) x y)(hr:∀r,r∈rows->r.length=es)(hn:rows.length=n)
(hs:Fl E es rows2 new T f n R)(hg:GK E E')(dH:∀i j,dr E E' (J (cO R i j)) (J (cO R i j)))(qt:∀a b:Nat×aA,(∀r,f (a.1,a.2++r)=J (b.1,b.2++r))->dr E E' (J a) (J b))
(ho:E'.ow id2=J R)(hG:¬E'.G id2)(hb:E'.H.b id2=J ⟨Z,cells2⟩)(qY:n+rows2.length<=cc)(hl:cc*es<=cells2.length)(hm:n+rows2.length<=j3)
(c1:∀q,q<n*es->cells2[q]? =old[q]?)(c2:∀q,q<new.length->cells2[n*es+q]? =new[q]?):
 PR E' (J R) (.sl Z es (rows++rows2)) (.slice (J ⟨id2,0,J es⟩) (n+rows2.length) cc):=by
 refine .fk ho hG hb rfl (by simp[hn]) qY hm (λr h=>?_) ⟨⟨h00,rfl⟩,by rw[gk];exact hl⟩ λi r j x y g1 g2 g3=>?_
 ·rcases jY.1 h with h|h
  ·exact hr r h
  ·exact hs.rl r h
 ·rw[gk]at g3;by_cases hi:i<rows.length
  ·rw[fw hi]at g1;have fm:=hr r (eo g1);have hj:j<es:=by have:=(cT.1 g2).1;omega
   have hlt:i*es+j<n*es:=by
    have:(i+1)*es<=n*es:=gA _ (by omega);rw[jZ]at this;omega
   rw[c1 _ hlt]at g3;exact(h0 i r j x y g1 g2 g3).move hg (dH i j)
  ·rw[fT (by omega)]at g1;have fm:=hs.rl r (eo g1);have hj:j<es:=by have:=(cT.1 g2).1;omega
   have cF:i-rows.length<rows2.length:=(cT.1 g1).1
   have hlt:(i-rows.length)*es+j<new.length:=by
    rw[hs.len];have:(i-rows.length+1)*es<=rows2.length*es:=gA _ (by omega);rw[jZ]at this;omega
   have e:i*es+j=n*es+((i-rows.length)*es+j):=by
    rw[<-iN,<-nS];congr 2;omega
   rw[e,c2 _ hlt]at g3;have eV:=hs.el _ r j x y g1 g2 g3;cases T with
   |none=>exact eV.move hg True.intro
   |some a=>
    refine eV.move hg (qt (cO a (i-rows.length) j) (cO R i j) λq=>?_);have:=hs.mv a rfl (i-rows.length) j q;rw[show n+(i-rows.length)=i by omega]at this;simpa[cO]using this
def WI(ok:ej E){g:Bool}{e:TypeId}{cz:Nat}{z:List Value}(he:cR P t=J e)(ht:cA P e=J (g,es,cz,z))(hz:z.length=es)(h0:es≠0)
{rows:List (List PV)}{sv:Value}{new:List Value}{T:Lo}(hx:PR E (J R) (.sl Z es rows) sv)
(hs:Fl E es rows2 new T f rows.length R)(zj:new.all lN=Z)(FT:∀r,f (R.1,R.2++r)=ae)
(eI:(rows.length+rows2.length)*cz<=140737488355328)(fV:rows.length+rows2.length<=4611686018427387904):
 ∃v E',rW P t sv new rows2.length E.H=J (v,E'.H)/\ej E'/\fZ E E'/\PR E' (J R) (.sl Z es (rows++rows2)) v/\
  (∀a:Nat×aA,(∀r,f (a.1,a.2++r)=ae)->(∀r,(a.1,a.2++r)≠R)->dr E E' (J a) (J a)):=by
 have AC:¬(es=0\/z.length≠es\/new.all lN=aa):=by
  rintro(h|h|h)
  ·exact h0 h
  ·exact h hz
  ·rw[zj]at h;cases h
 have QL:∀(a:Nat×aA) i j,(∀r,f (a.1,a.2++r)=ae)->∀r,f ((cO a i j).1,(cO a i j).2++r)=ae:=λa i j h r=>by rw[xE];exact h _
 by_cases hm:rows2.length=0
 ·
  have hr2:rows2=[]:=mK hm;subst hr2;refine⟨sv,E,?_,ok,fZ.refl E,by simpa using hx,λa _ _=>.refl _⟩;simp only[rW,he,ht,az AC];cases hx with
  |sl0 _ _=>simp
  |fk how hG hb bc hn hc gD hr hl hh=>simp
 ·cases hx with
  |sl0 _ _=>
   simp only[ia,gk]at eI fV;refine⟨.slice (J ⟨E.H.n,0,J es⟩) rows2.length rows2.length,E.push ⟨Z,new⟩ R f,?_,ok.push,ok.uL,?_,λa h1 _=>ok.m8 h1⟩
   ·simp only[rW,he,ht,az AC,az hm];rw[aB ⟨eI,fV⟩];rfl
   ·have:=PY (E:=E) (E':=E.push ⟨Z,new⟩ R f) (rows:=[]) (rows2:=rows2) (old:=[]) (new:=new) (cells2:=new) (R:=R) (T:=T) (f:=f) (id2:=E.H.n) (n:=0) (cc:=rows2.length) h0 (λi r j x y h=>by simp at h) (λr h=>by cases h) rfl hs ok.nl
     (λi j=>ok.m8 (QL R i j FT)) (λa b h=>ok.PJ h) zhw ok.xN yl (by omega) (by rw[hs.len];exact cy _) (by unfold j3;omega) (λq hq=>by omega) (λq hq=>by simp)
    simpa using this
  | @fk _ id off _ n c k _ how hG hb bc hn hc gD hr hl hh=>
   obtain⟨⟨yS,rfl⟩,hl⟩:=hl;subst hn;rw[gk]at hl;have hlen:rows.length*es<=k.cells.length:=gj (gA _ hc) hl;have hko:k=⟨Z,k.cells⟩:=by obtain⟨q,cs⟩:=k;simp only at bc;subst bc;rfl
   have hold:∀(i:Nat) (r:List PV) (j:Nat) (x:PV) (y:Value),rows[i]? =J r->r[j]? =J x->k.cells[i*es+j]? =J y->PR E (J (cO R i j)) x y:=
    λi r j x y a1 a2 a3=>hh i r j x y a1 a2 (by rw[gk];exact a3)
   have n7:new.length=rows2.length*es:=hs.len
   have hne:new≠[]:=by
    intro e;rw[e]at n7;have:1*1<=rows2.length*es:=ri (by omega) (by omega);simp at n7;omega
   have Zi:∀a:Nat×aA,(∀r,(a.1,a.2++r)≠R)->∀i r,E.ow i=J (a.1,a.2++r)->i≠id:=λa ha i r h e=>by
    subst e;rw[how]at h;exact ha r (yA h).symm
   have Aag:∀i j,∀r,((cO R i j).1,(cO R i j).2++r)≠R:=λi j r e=>by
    have:=gn (λz=>z.2.length) e;simp[cO]at this
   by_cases nA:rows.length+rows2.length<=c
   ·
    have He:(rows.length+rows2.length)*es<=c*es:=gA _ nA;rw[nS]at He;obtain⟨cs,dQ⟩:=DT (cs:=k.cells) (n:=0+rows.length*es) hne (by omega);obtain⟨b1,b2,b3,b4⟩:=Dt hne dQ;rw[gk]at b2 b3 b4
    let E1:Env:=⟨E.H.set id (J ⟨Z,cs⟩),E.G,λi=>(E.ow i).map λx=>(f x).getD x⟩
    have jk:∀i,i≠id->E1.H.b i=E.H.b i:=λi hi=>by simp[E1,AH.set,hi]
    have hg:GK E E1:=λi hi=>⟨hi,λk0 oI=>⟨k0,(jk i λe=>hG (by rw[<-e];exact hi)).trans oI,rfl⟩⟩
    have Qm:ej E1:=⟨λi k0 oI=>by
     by_cases e:i=id
     ·subst e;exact ok.wf i k hb
     ·rw[jk i e]at oI;exact ok.wf i k0 oI,λi hi=>by
     obtain⟨g1,g2⟩:=ok.fresh i hi
     exact⟨by simp[E1,g1],g2⟩⟩
    have dH:∀a:Nat×aA,(∀r,f (a.1,a.2++r)=ae)->(∀r,(a.1,a.2++r)≠R)->dr E E1 (J a) (J a):=λa h1 h2 i r g1 g2=>
     ⟨by simp[E1,g1,h1],g2,jk i (Zi a h2 i r g1)⟩
    have qt:∀a b:Nat×aA,(∀r,f (a.1,a.2++r)=J (b.1,b.2++r))->dr E E1 (J a) (J b):=λa b h i r g1 g2=>
     ⟨by simp[E1,g1,h],g2,jk i λe=>by
       subst e;rw[how]at g1;have:=h r;rw[<-yA g1]at this;have h3:=FT [];rw[Eu]at h3
       rw[h3]at this;cases this⟩
    have hR1:E1.ow id=J R:=by
     have h3:=FT [];rw[Eu]at h3;simp[E1,how,h3]
    refine⟨.slice (J ⟨id,0,J es⟩) (rows.length+rows2.length) c,E1,?_,Qm,⟨cy _,hg,λi _ hi=>⟨by simp[E1,hi],jk i (λe=>by rw[e,how]at hi;cases hi),λh=>h⟩⟩,?_,dH⟩
    ·simp only[rW,he,ht,az AC,az hm,hb];rw[aB ⟨bc,trivial,by omega,eI,fV⟩,aB nA,dQ]
    ·exact PY (cells2:=cs) yS hold hr rfl hs hg (λi j=>dH _ (QL R i j FT) (Aag i j)) qt hR1 hG (by simp[E1,AH.set]) nA (by rw[b1];exact hl) (by unfold j3;omega)
      (λq hq=>b3 q (by omega)) (λq hq=>b4 q hq)
   ·
    let cells2:=k.cells.take (rows.length*es)++new
    have AbG:cells2.length=(rows.length+rows2.length)*es:=by simp[cells2,n7,nS];omega
    let E1:Env:=⟨(E.H.set id ae).push ⟨Z,cells2⟩,E.G,λi=>if i=E.H.n then J R else(E.ow i).map λx=>(f x).getD x⟩
    have Acy:id<E.H.n:=ok.wf id k hb
    have jk:∀i,i≠id->i<E.H.n->E1.H.b i=E.H.b i:=λi hi hlt=>by
     simp only[E1,AH.push,AH.set];have h9:i≠E.H.n:=sC hlt;simp[h9,hi]
    have AbF:E1.H.b E.H.n=J ⟨Z,cells2⟩:=by simp[E1,AH.push,AH.set]
    have hg:GK E E1:=λi hi=>⟨hi,λk0 oI=>⟨k0,(jk i (λe=>hG (by rw[<-e];exact hi)) (ok.ZU hi)).trans oI,rfl⟩⟩
    have Qm:ej E1:=⟨λi k0 oI=>by
     show i<E.H.n+1;by_cases h9:i<E.H.n
     ·omega
     ·by_cases h8:i=E.H.n
      ·omega
      ·have h7:i≠id:=by omega
       simp[E1,AH.push,AH.set,h8,h7]at oI;have:=ok.wf i k0 oI;omega,λi hi=>by
     have hi:E.H.n+1<=i:=hi;obtain⟨g1,g2⟩:=ok.fresh i (by omega)
     exact⟨by simp only[E1];rw[az (by omega),g1];rfl,g2⟩⟩
    have dH:∀a:Nat×aA,(∀r,f (a.1,a.2++r)=ae)->(∀r,(a.1,a.2++r)≠R)->dr E E1 (J a) (J a):=λa h1 h2 i r g1 g2=>
     ⟨by simp only[E1];rw[az (sC (ok.lt g1)),g1];simp[h1],g2,jk i (Zi a h2 i r g1) (ok.lt g1)⟩
    have qt:∀a b:Nat×aA,(∀r,f (a.1,a.2++r)=J (b.1,b.2++r))->dr E E1 (J a) (J b):=λa b h i r g1 g2=>
     ⟨by simp only[E1];rw[az (sC (ok.lt g1)),g1];simp[h],g2,jk i (λe=>by
       subst e;rw[how]at g1;have:=h r;rw[<-yA g1]at this;have h3:=FT [];rw[Eu]at h3
       rw[h3]at this;cases this) (ok.lt g1)⟩
    have mQ:(k.cells.take (rows.length*es)).length=rows.length*es:=by rw[nu];omega
    refine⟨.slice (J ⟨E.H.n,0,J es⟩) (rows.length+rows2.length) (rows.length+rows2.length),E1,?_,Qm,
     ⟨C7 _,hg,λi h1 hi=>⟨by simp only[E1];rw[az (sC h1),hi];rfl,jk i (λe=>by rw[e,how]at hi;cases hi) h1,λh=>h⟩⟩,?_,dH⟩
    ·simp only[rW,he,ht,az AC,az hm,hb];rw[aB ⟨bc,trivial,by omega,eI,fV⟩,az nA,aB trivial]
    ·exact PY (cells2:=cells2) yS hold hr rfl hs hg (λi j=>dH _ (QL R i j FT) (Aag i j)) qt (by simp[E1]) (λh=>(ok.fresh _ (cy _)).2 h) AbF (cy _) (by rw[AbG];exact cy _) (by unfold j3;omega)
      (λq hq=>by simp only[cells2];rw[fw (by omega),l6,aB hq]) (λq hq=>by simp only[cells2];rw[fT (by omega),mQ];congr 1;omega)
def SU :Fl E es [] [] ae f n R:=⟨by simp,λr h=>(by cases h),λi r j x y h=>(by simp at h),λa h=>(by cases h)⟩
def D2(r:aq nt pin E0 E pf fr){bW:ah}(hR:R.1=nt){g:Bool}{e:TypeId}{cz:Nat}{z:List Value}(he:cR P t=J e)(ht:cA P e=J (g,es,cz,z))(h0:es≠0)
(h:pI es pf x=J (rows2,bW)):
 ∃new T f,iy P t fr E.H x=J (new,rows2.length)/\Fl E es rows2 new T f n R/\(∀r,f (R.1,R.2++r)=ae)/\
  (∀E',ej E'->fZ E E'->(∀a:Nat×aA,(∀r,f (a.1,a.2++r)=ae)->a.1<nt->dr E E' (J a) (J a))->aq nt pin E0 E' bW fr):=by
 have NQ:∀{t':Nat}{v:Value}{y:PV},fr t'=.v v->(∃l,PR E l y v)->qJ es y=J rows2->
  ∃new,iy P t fr E.H (.tmp t')=J (new,rows2.length)/\Fl E es rows2 new ae (λ_=>ae) n R:=by
  intro t' v y hv eV hy;obtain⟨l,eV⟩:=eV;unfold qJ at hy;split at hy
  ·rename_i bw rows;split at hy
   ·rename_i hc;obtain⟨rfl,qh⟩:=hc;simp only[aT]at hy;subst hy;cases eV with
    |sl0 _ _=>exact⟨[],by simp[iy,he,ht,hv],SU⟩
    | @fk l id off _ m cc k _ how hG hb bc hn hc gD hr hl hh=>
     obtain⟨⟨yS,rfl⟩,hl⟩:=hl;rw[gk]at hl;have hlen:m*bw<=k.cells.length:=gj (gA _ hc) hl;refine⟨k.cells.take (m*bw),?_,?_,hr,λi r j x y g1 g2 g3=>?_,λa h=>(by cases h)⟩
     ·simp only[iy,he,ht,hv];by_cases r9:m=0
      ·subst r9;rw[aB rfl];simp[hn]
      ·rw[az r9,az (by simp)];simp only[AH.load,hb,l9,aR,OA,Fp hlen,hn]
     ·rw[nu,hn];omega
     ·have fm:=hr r (eo g1);have hj:j<bw:=by have:=(cT.1 g2).1;omega
      have hi:i<m:=by have:=(cT.1 g1).1;omega
      have hlt:i*bw+j<m*bw:=by
       have:(i+1)*bw<=m*bw:=gA _ (by omega);rw[jZ]at this;omega
      rw[l6,aB hlt]at g3;refine(hh i r j x y g1 g2 (by rw[gk];exact g3)).free ?_;have h1:=bm.1 qh r (eo g1);have h2:=bm.1 h1 x (eo g2);simpa using h2
   ·cases hy
  ·rename_i bw rows;split at hy
   ·rename_i hc;subst hc;simp only[aT]at hy;subst hy;cases eV with
    |sl0 _ _=>exact⟨[],by simp[iy,he,ht,hv],SU⟩
    | @jI _ id off _ m cc k _ hG hb hn hc gD hr hl hh=>
     obtain⟨yS,hl⟩:=hl;have hlen:m*bw<=(k.cells.drop off).length:=by simp;omega
     refine⟨(k.cells.drop off).take (m*bw),?_,?_,hr,λi r j x y g1 g2 g3=>?_,λa h=>(by cases h)⟩
     ·simp only[iy,he,ht,hv];by_cases r9:m=0
      ·subst r9;rw[aB rfl];simp[hn]
      ·rw[az r9,az (by simp)];simp only[AH.load,hb,l9,aR,Fp hlen,hn]
     ·rw[nu,hn];omega
     ·have fm:=hr r (eo g1);have hj:j<bw:=by have:=(cT.1 g2).1;omega
      have hi:i<m:=by have:=(cT.1 g1).1;omega
      have hlt:i*bw+j<m*bw:=by
       have:(i+1)*bw<=m*bw:=gA _ (by omega);rw[jZ]at this;omega
      rw[l6,aB hlt,jd]at g3;exact hh i r j x y g1 g2 (by rw[iN];exact g3)
   ·cases hy
  ·cases hy
 have sB:bW=pf->∀E',ej E'->fZ E E'->(∀a:Nat×aA,(∀r,(λ_:Nat×aA=>(ae:Option (Nat×aA))) (a.1,a.2++r)=ae)->a.1<nt->dr E E' (J a) (J a))->aq nt pin E0 E' bW fr:=by
  intro e E' h1 h2 h3;subst e;exact r.env h1 h2 λs hs=>h3 (s,[]) (λ_=>rfl) hs
 cases x with
 |const k=>
  have hk:k=.slice ae 0 0:=by
   unfold pI at h;split at h
   ·rename_i wM;cases wM
   ·rename_i wM;cases wM;rfl
   ·cases h
  subst hk;simp only[pI,aT,b9]at h;obtain⟨rfl,rfl⟩:=h;exact⟨[],ae,λ_=>ae,by simp[iy,he,ht],SU,λ_=>rfl,sB rfl⟩
 |tmp t'=>
  simp only[pI,A0,l7]at h;have hf:=r.f t'
  have mQ:t'<nt:=by
   rcases dK t' nt with h1|h1
   ·exact h1
   ·rw[r.hi t' h1]at h;simp[qm,jP,dM,qJ]at h
  cases aD:pf t' with
  |ls bw rows=>
   rw[aD]at h hf;simp only[qm]at h;split at h
   ·rename_i hes;subst hes;simp only[aT,b9]at h;obtain⟨rfl,rfl⟩:=h;obtain⟨cells,c1,c2,c3,c4,c5⟩:=hf
    let f:Nat×aA->Option (Nat×aA):=λx=>if x.1=t' then match x.2 with
     |(i,j)::r=>J (R.1,R.2++(n+i,j)::r)
     |[]=>ae else ae
    refine⟨cells,J (t',[]),f,by simp[iy,he,ht,c1],⟨c2,c4,λi r j x y g1 g2 g3=>by simpa[Lo.ch,cO]using c5 i r j x y g1 g2 g3,λa ha i j q=>?_⟩,λq=>?_,λE' h1 h2 h3=>?_⟩
    ·cases ha;simp[f]
    ·have:R.1≠t':=λe=>by rw[hR]at e;exact yz _ (e▸mQ)
     simp[f,this]
    ·refine r.qV mQ h2.g (λs hs dH=>h3 (s,[]) (λq=>by simp[f,dH]) hs) (λL hL=>absurd hL (A0 _)) (λ_ _=>rfl) (λh=>absurd h (yz _)) h2 h1.wf h1.fresh (λ_ _ h1 h2=>.inl (by rw[h1]at h2;cases h2;rfl)) yn rfl r.pin
   ·cases h
  |v x=>
   rw[aD]at h hf;simp only[qm,dM,aR,bN,b9]at h;obtain⟨rows,h1,rfl,rfl⟩:=h;obtain⟨v,h2,h3⟩:=ga hf (by rintro rfl;simp[qJ]at h1);obtain⟨new,q1,q2⟩:=NQ h2 ⟨_,h3⟩ h1;exact⟨new,ae,_,q1,q2,λ_=>rfl,sB rfl⟩
  |rf s p=>
   rw[aD]at h hf;simp only[qm,dM,bR,bN,b9]at h;obtain⟨x,hx,rows,h1,rfl,rfl⟩:=h;obtain⟨v,h2,h3⟩:=hf;obtain⟨v',w1,w2⟩:=r.at hx (by rintro rfl;simp[qJ]at h1) (jc r h3 hx);have:=w1.same h3;subst this;obtain⟨new,q1,q2⟩:=NQ h2 ⟨_,w2⟩ h1;exact⟨new,ae,_,q1,q2,λ_=>rfl,sB rfl⟩
  |rv s p lo hi=>
   rw[aD]at h hf;simp only[qm,dM,bR,bN,b9]at h;obtain⟨x,⟨y,hy,gv⟩,rows,h1,rfl,rfl⟩:=h;unfold Fa at gv;split at gv
   ·rename_i o bw AbE;split at gv
    ·rename_i hb;simp only[aT]at gv;subst gv;rcases hf with⟨h2,h3,rfl,rfl⟩|⟨id,off,es2,m,cc,h2,h3,h4,h5⟩
     ·obtain⟨new,q1,q2⟩:=NQ h3 ⟨ae,by simpa using PR.sl0 (E:=E) (l:=ae) o bw⟩ h1;exact⟨new,ae,_,q1,q2,λ_=>rfl,sB rfl⟩
     ·obtain⟨v',w1,w2⟩:=r.at hy (by simp) (jc r h2 hy);have:=w1.same h2;subst this;have ee:=zR w2;subst ee;cases o with
      |false=>
       obtain⟨_,_,_,e3⟩:=w2.cut h3 h4;obtain⟨new,q1,q2⟩:=NQ h5 ⟨_,e3⟩ h1;exact⟨new,ae,_,q1,q2,λ_=>rfl,sB rfl⟩
      |true=>
       simp only[qJ]at h1;split at h1
       ·rename_i hc;obtain⟨rfl,qh⟩:=hc;simp only[aT]at h1;subst h1;cases w2 with
        | @fk l id off _ m cc k _ how hG gK bc hn hc gD hr hl hh=>
         obtain⟨⟨yS,rfl⟩,hl⟩:=hl;rw[gk]at hl h5;have hhi:hi*bw<=k.cells.length:=gj (gA _ (by omega)) hl;have Acq:lo*bw+(hi-lo)*bw=hi*bw:=by rw[<-nS];congr 1;omega
         have hlen:(hi-lo)*bw<=(k.cells.drop (lo*bw)).length:=by simp;omega
         have fm:((AbE.take hi).drop lo).length=hi-lo:=by simp;omega
         refine⟨(k.cells.drop (lo*bw)).take ((hi-lo)*bw),ae,λ_=>ae,?_,⟨?_,λr hJ=>hr r (Gv (Ow hJ)),λi r j x y g1 g2 g3=>?_,λa h=>(by cases h)⟩,λ_=>rfl,sB rfl⟩
         ·simp only[iy,he,ht,h5];by_cases r9:hi-lo=0
          ·rw[aB r9,r9];simp[fm,r9]
          ·rw[az r9,az (by simp)];simp only[AH.load,gK,l9,aR,Fp hlen,fm]
         ·rw[nu,fm];omega
         ·have g1':=g1;rw[jd,l6]at g1;split at g1
          ·rename_i AcA;have fm:=hr r (eo g1);have hj:j<bw:=by have:=(cT.1 g2).1;omega
           have hlt:i*bw+j<(hi-lo)*bw:=by
            have:(i+1)*bw<=(hi-lo)*bw:=gA _ (by omega);rw[jZ]at this;omega
           rw[l6,aB hlt,jd]at g3;refine(hh (lo+i) r j x y g1 g2 (by rw[gk,<-g3];congr 1;rw[nS];omega)).free ?_;have h1:=bm.1 qh r (eo g1');have h2:=bm.1 h1 x (eo g2);simpa using h2
          ·cases g1
       ·cases h1
    ·cases gv
   ·cases gv
  |ra s p i j m=>
   rw[aD]at h;simp only[qm,dM,bR,bN,b9]at h;obtain⟨x,⟨y,_,nj⟩,rows,h1,_⟩:=h;unfold wU at nj;split at nj
   ·cases nj;simp[qJ]at h1
   ·cases nj
  |_=>rw[aD]at h;simp[qm,dM]at h
 |func _=>simp[pI]at h
 |global _=>simp[pI]at h
def zwp:∀{rows:List (List PV)}{ns:List Int},vy rows=J ns->ns.length=rows.length/\∀(i:Nat) (n:Int),ns[i]? =J n->rows[i]? =J [.int .u8 n]:=by
 intro rows;induction rows with
 |nil=>intro ns h;simp only[vy,aT]at h;subst h;exact⟨rfl,λi n h=>by simp at h⟩
 |cons r rs ih=>
  intro ns h;simp only[vy,bR,bN]at h;obtain⟨n,h1,ns',h2,rfl⟩:=h;obtain⟨i1,i2⟩:=ih h2
  have hr:r=[.int .u8 n]:=by
   unfold zDZ at h1;split at h1
   ·cases h1;rfl
   ·cases h1
  refine⟨by simp[i1],λi k hk=>?_⟩;cases i with
  |zero=>simp at hk;subst hk;simp[hr]
  |succ i=>simpa using i2 i k (by simpa using hk)
def Wf(r:aq c.nt pin E0 E pf fr)(hp:er c pin){s:TypeId}(ho:o.op=.convert s t x)(h:xz P c s t x o.dst K pf)
(hk:∀pf' ai E',K pf'->aq c.nt pin E0 E' pf' ai->K' ai E'.H):fj P c.nt o K' fr E.H:=by
 unfold xz at h;split at h
 ·rename_i d y bW hd hb;obtain⟨dH,h⟩:=h;unfold AL at hb;split at hb
  ·rename_i na;simp only[bR,bN,b9]at hb;obtain⟨⟨rows,pf3⟩,h1,ns,h2,rfl,rfl⟩:=hb
   obtain⟨e,he,ht⟩:∃e,cR P s=J e/\∃g b z,cA P e=J (g,1,b,z):=by
    unfold sM at na;split at na
    ·rename_i e he;split at na
     ·rename_i ht;exact⟨e,he,_,_,_,ht⟩
     ·cases na
    ·cases na
   obtain⟨g,b,z,ht⟩:=ht;obtain⟨new,T,f,q1,q2,_,q4⟩:=D2 (n:=0) (R:=(c.nt,[])) r rfl he ht (by omega) h1;have r2:=q4 E r.ok (fZ.refl E) λa _ _=>λid q h1 h2=>⟨h1,h2,rfl⟩
   obtain⟨n1,n2⟩:=zwp h2
   have AC:new=ns.map (Value.int .u8):=by
    have hl:=q2.len;dsimp only at hl n1;rw[Kv]at hl;apply List.ext_getElem?;intro i;by_cases hi:i<new.length
    ·have cF:i<ns.length:=by omega
     have a1:ns[i]? =J ns[i]:=cE cF;have a2:=n2 i _ a1;have a3:new[i*1+0]? =J (new[i]'hi):=by simp[cE hi]
     have a4:=q2.el i _ 0 _ _ a2 rfl a3;rw[cE hi,Da,a1];generalize new[i]'hi=w at a4⊢;generalize T.ch i 0=lo at a4;cases a4;rfl
    ·rw[AY (by omega),AY (by simp;omega)]
   have t9:d<c.nt:=by
    have:=h.1;simp only[gJ,bI,eC]at this;exact this.1.1
   have hK:=gP r2 hp (.str (xL ns)) h hk;unfold fj;rw[ho,hd];simp only[q1];refine⟨⟨t9,na,dH⟩,ns,AC,?_⟩;simpa[bB,t9]using hK
  ·cases hb
 ·cases h
def zA0(r:aq c.nt pin E0 E pf fr){s:TypeId}(ho:o.op=.convert s t x)(hl:HP pf x=Z)(h:fj P c.nt o K' fr E.H):aM P c.nt o K' fr E.H:=by
 cases x with
 |tmp u=>
  obtain⟨rows,aD⟩:∃rows,pf u=.ls 1 rows:=by
   have hl:G0 (pf u)=Z:=hl;cases e:pf u with
   |ls es rows=>
    rw[e]at hl;have h1:es=1:=by simpa[G0]using hl
    exact⟨rows,by rw[h1]⟩
   |_=>rw[e]at hl;cases hl
  have hf:=r.f u;rw[aD]at hf;obtain⟨cells,h1,_⟩:=hf;cases hd:o.dst with
  |none=>simp only[fj,ho,hd]at h
  |some d=>
   simp only[fj,ho,hd]at h;obtain⟨⟨k1,k2,k3⟩,h⟩:=h;split at h
   ·rename_i cs n iX;obtain⟨ns,rfl,hK⟩:=h;simp only[aM,ho];refine .inr ⟨⟨k2,k3,by rw[hd];rfl⟩,rows.length,ns,?_,by rw[hd];simpa[bB,k1]using hK⟩
    have hc:cells=ns.map (Value.int .u8):=by
     unfold iy at iX;split at iX
     ·cases iX
     ·split at iX
      ·cases iX
      ·simp only[h1]at iX;split at iX
       ·cases iX;rfl
       ·cases iX
    simp only[D8,h1,hc,eP]
   ·cases h
 |_=>cases hl
def zwf(r:aq c.nt pin E0 E pf fr)(hp:er c pin){s:Operand}(ho:o.op=.call ⟨.builtin .append,args,#[t,t]⟩)(ha:args.toList=[s,x])(h:FK P c t s x o.dst K pf)
(hk:∀pf' ai E',K pf'->aq c.nt pin E0 E' pf' ai->K' ai E'.H):aM P c.nt o K' fr E.H:=by
 unfold FK at h;split at h
 ·rename_i z hz;obtain⟨e,g,es,b,zc,he,ht,rV,sn,yF,rfl⟩:=Cn hz;unfold KV at h;split at h
  ·rename_i y aQ jp;split at h
   ·rename_i rows mY;obtain⟨sv,fr1,H1,E1,m1,e1,r1,f1⟩:=um r (fl:=[]) (λk x v h=>by simp at h) jp;have hfl:PR E1 (J (c.nt,[(0,0)])) y sv:=f1 0 y sv rfl
    have hy:y=.sl Z es rows:=by
     unfold y9 at mY;split at mY
     ·split at mY
      ·rename_i hh;simp only[aT]at mY;subst mY;simp only at hh;rw[hh]
      ·cases mY
     ·cases mY
    subst hy;unfold Nb at h;split at h
    ·rename_i rows2 bW yV;obtain⟨zj,⟨eI,fV⟩,dj⟩:=h;simp only at eI fV dj yV;obtain⟨new,T,f,q1,q2,q3,q4⟩:=D2 (P:=P) r1 (R:=(c.nt,[(0,0)])) (n:=rows.length) rfl he ht sn yV
     have QC:new.all lN=Z:=by
      rw[bm];intro w hw;obtain⟨q,hq⟩:=Oy hw;have hlt:q<rows2.length*es:=by have:=(cT.1 hq).1;rw[q2.len]at this;exact this
      have qD:0<es:=by omega
      have hi:q/es<rows2.length:=Aav (by rw[wb];exact hlt);have hj:q%es<es:=mM _ qD;have hr:=q2.rl _ (e9 hi)
      have hx:=q2.el (q/es) rows2[q/es] (q%es) (rows2[q/es][q%es]'(by omega)) w (cE hi) (cE _) (by
       rw[show q/es*es+q%es=q by rw[wb];exact OB q es];exact hq)
      have h1:=bm.1 zj _ (e9 hi);exact PS hx (bm.1 h1 _ (e9 _))
     obtain⟨v,E2,a1,a2,a3,a4,a5⟩:=WI (P:=P) r1.ok he ht rV sn hfl q2 QC q3 eI fV
     have r2:=q4 E2 a2 a3 λa h1 h2=>a5 a h1 λq e=>by
      have:=gn Prod.fst e;simp only at this;omega
     have:=gP r2 hp a4 dj hk;unfold aM;rw[ho];simp only[ha,m1];rw[aB trivial];rw[<-e1];simp only[q1,a1];exact this
    ·cases h
   ·cases h
  ·cases h
 ·cases h
def zDE(r:aq nt pin E0 E pf fr){z q:Nat}{y:PV}{aQ:ah}(h:ew z pf (.tmp q)=J (y,aQ))(hv:Y6 (pf q)=Z):∃v,fr q=.v v:=by
 have hf:=r.f q;simp only[ew]at h;cases aD:pf q with
 |v x=>
  rw[aD]at h hf;simp only[ll,AP]at h;split at h
  ·cases h
  ·rename_i hj;obtain⟨v,h1,_⟩:=ga hf (nX (by simpa using hj));exact⟨v,h1⟩
 |rf s p=>
  rw[aD]at hf;obtain⟨v,h1,_⟩:=hf;exact⟨v,h1⟩
 |_=>rw[aD]at hv;cases hv
def zuj(r:aq c.nt pin E0 E pf fr)(hp:er c pin){t':TypeId}{s:Operand}(ho:o.op=.call ⟨.builtin .append,args,#[t,t']⟩)(ha:args.toList=[s,x])(h:Hb P c t t' s x o.dst K pf)
(hk:∀pf' ai E',K pf'->aq c.nt pin E0 E' pf' ai->K' ai E'.H):c.hp≠[]/\fj P c.nt o K' fr E.H:=by
 unfold Hb at h;split at h
 ·rename_i d z n q hd hz hx;obtain⟨e,g,es,b,zc,he,ht,rV,sn,yF,rfl⟩:=Cn hz;obtain⟨⟨k1,k2,k3,k4,k5,k6⟩,h⟩:=h;refine⟨k1,?_⟩;unfold T2 at h;split at h
  ·rename_i y aQ jp;split at h
   ·rename_i rows mY;obtain⟨⟨zj,eI,fV⟩,dj⟩:=h;obtain⟨w,hw⟩:=zDE r jp k3;obtain⟨sv,fr1,H1,E1,m1,e1,r1,f1⟩:=um r (fl:=[]) (λk x v h=>by simp at h) jp
    have hm:sv=w/\fr1=fr/\H1=E.H:=by
     simp only[bh,hw,aT,b9]at m1;exact⟨m1.1.symm,m1.2.1.symm,m1.2.2.symm⟩
    obtain⟨rfl,rfl,rfl⟩:=hm;have hfl:PR E1 (J (c.nt,[(0,0)])) y sv:=f1 0 y sv rfl
    have hy:y=.sl Z es rows:=by
     unfold y9 at mY;split at mY
     ·split at mY
      ·rename_i hh;simp only[aT]at mY;subst mY;simp only at hh;rw[hh]
      ·cases mY
     ·cases mY
    subst hy;simp only at zj eI fV dj;have hlen:(List.replicate n.toNat (uz (rL c (J d)) ((zz P e zc).map dz))).length=n.toNat:=by simp
    have qX:∀l,l∈List.replicate n.toNat zc->l.length=es:=λl hl=>by rw[(nr.1 hl).2];exact rV
    have q2:Fl E1 es (List.replicate n.toNat (uz (rL c (J d)) ((zz P e zc).map dz))) (List.replicate n.toNat zc).flatten ae (λ_=>ae) rows.length (c.nt,[(0,0)]):=by
     refine⟨by rw[EH qX];simp,λl hl=>by rw[(nr.1 hl).2,GQ];exact rV,λi l j x y g1 g2 g3=>?_,λa h=>by cases h⟩;have hi:i<n.toNat:=by have:=(cT.1 g1).1;simpa using this
     have bc:=(nr.1 (eo g1)).2;subst bc;have hj:j<es:=by have:=(cT.1 g2).1;rw[GQ]at this;omega
     rw[KJ qX (e:=zc) (by rw[Kz,aB (by omega)]) hj]at g3;exact R0 yF (λ_=>ae) j x y g2 g3
    have QC:(List.replicate n.toNat zc).flatten.all lN=Z:=by
     rw[bm];intro w hw;obtain⟨q,hq⟩:=Oy hw;have hlt:q<n.toNat*es:=by have:=(cT.1 hq).1;rw[EH qX]at this;simpa using this
     have qD:0<es:=by omega
     have hi:q/es<n.toNat:=Aav (by rw[wb];exact hlt);have hj:q%es<es:=mM _ qD;have Nk:(uz (rL c (J d)) ((zz P e zc).map dz)).length=es:=by rw[GQ];exact rV
     have hx:=q2.el (q/es) (uz (rL c (J d)) ((zz P e zc).map dz)) (q%es) ((uz (rL c (J d)) ((zz P e zc).map dz))[q%es]'(by omega)) w (by rw[Kz,aB hi]) (cE _) (by
      rw[show q/es*es+q%es=q by rw[wb];exact OB q es];exact hq)
     have h1:=bm.1 zj _ (gB.2 rfl);exact PS hx (bm.1 h1 _ (e9 _))
    obtain⟨v,E2,a1,a2,a3,a4,a5⟩:=WI (P:=P) r1.ok he ht rV sn hfl q2 QC (λ_=>rfl) (by rw[hlen];exact eI) (by rw[hlen];exact fV)
    have r2:=r1.env a2 a3 λs hs=>a5 (s,[]) (λ_=>rfl) λq e=>by
     have:=gn Prod.fst e;simp only at this;omega
    have NN:=gP r2 hp a4 dj hk;rw[hlen,e1]at a1
    have gW:d<c.nt/\K' (fr1.put d (.v v)) E2.H:=by
     simp only[bB]at NN;split at NN
     ·rename_i hlt;exact⟨hlt,NN⟩
     ·cases NN
    unfold fj;rw[ho,hd];simp only[ha,he,pV r hx,ht];refine .inr ⟨⟨gW.1,k2,k4,k5,k6,rV,sn,yF⟩,sv,v,E2.H,by simp[be,hw],a1,gW.2⟩
   ·cases h
  ·cases h
 ·cases h
def zwS(r:aq c.nt pin E0 E pf fr){ts:Array TypeId}(ho:o.op=.call ⟨.builtin .clear,args,ts⟩)(h:M4 P c o.dst K pf args.toList ts)
(hk:∀pf' ai E',K pf'->aq c.nt pin E0 E' pf' ai->K' ai E'.H):c.hp≠[]/\fj P c.nt o K' fr E.H:=by
 unfold M4 at h;split at h
 ·rename_i q t ha;obtain⟨hd,h⟩:=h;unfold PN at h;split at h
  ·rename_i pf' tq;obtain⟨og,hK⟩:=h;refine⟨og,?_⟩;have H4:=r.f q;unfold YZ at tq;split at tq
   ·rename_i s lo hi hq;rw[hq]at H4;split at tq
    ·rename_i cz kk nn rows hz hs;split at tq
     ·rename_i hlt;simp only[aT]at tq;subst tq;obtain⟨e,g,es,b,z,he,ht,rV,sn,yF,Ln⟩:=Cn hz;simp only[b9]at Ln;obtain⟨rfl,rfl,Ln⟩:=Ln;have jC:=r.f s;rw[hs]at jC;obtain⟨v,v1,v2⟩:=ga jC (by simp);have iW:s<c.nt:=r.rt q s (by rw[hq];rfl);cases v2 with
      |sl0 o' bw=>simp at hlt;omega
      | @fk _ id off _ n cc k _ how hG hb bc hn hc hm hr hl hh=>
       obtain⟨⟨_,rfl⟩,hl⟩:=hl
       obtain⟨w,rfl⟩:∃w,z=[w]:=by
        cases z with
        |nil=>simp at rV
        |cons a l=>cases l with
         |nil=>exact⟨a,rfl⟩
         |cons b l=>simp at rV
       have hw:w=.int kk nn:=by
        have:=R0 (P:=P) (E:=E) (b:=aa) (t:=e) (z:=[w]) yF (λ_=>ae) 0 (.int kk nn) w (by simp only[uz,p7,l7,<-Ln];rfl) rfl;cases this;rfl
       subst hw
       have hfl:(List.replicate (hi-lo) [Value.int kk nn]).flatten=List.replicate (hi-lo) (Value.int kk nn):=by
        generalize hi-lo=m;induction m with
        |zero=>rfl
        |succ m ih=>simp[Aca,ih]
       have mP:fr q=.v (.slice (J ⟨id,lo,J 1⟩) (hi-lo) (cc-lo)):=by
        rcases H4 with⟨w1,_⟩|⟨Ba,Acv,bw,n',c',w1,_,_,w2⟩
        ·rcases w1 with⟨r0,a1,a2⟩|⟨c0,j',p',y',a1,_⟩
         ·rw[v1]at a1;cases a1;cases a2
         ·rw[v1]at a1;cases a1
        ·rcases w1 with⟨r0,a1,a2⟩|⟨c0,j',p',y',a1,_⟩
         ·rw[v1]at a1;cases a1;cases a2;simpa using w2
         ·rw[v1]at a1;cases a1
       have hne:List.replicate (hi-lo) (Value.int kk nn)≠[]:=λe0=>by
        have:=gn List.length e0;simp at this;omega
       obtain⟨cs,dQ⟩:=DT (cs:=k.cells) (n:=lo) hne (by simp;omega);obtain⟨b1,b2,b3,b4⟩:=Dt hne dQ
       let E1:Env:={E with H:=E.H.set id (J ⟨Z,cs⟩)}
       have jk:∀i,i≠id->E1.H.b i=E.H.b i:=λi bY=>by simp[E1,AH.set,bY]
       have Qe:E1.H.b id=J ⟨Z,cs⟩:=by simp[E1,AH.set]
       have qI:GK E E1:=λi hGi=>⟨hGi,λk' hk'=>by
        have:i≠id:=λe=>hG (by rw[<-e];exact hGi)
        exact⟨k',(jk i this).trans hk',rfl⟩⟩
       have qt:∀a:Nat×aA,a≠(s,[])->(∀r,(a.1,a.2++r)≠(s,[]))->dr E E1 (J a) (J a):=λa _ ha i r g1 g2=>by
        refine⟨g1,g2,jk i λe=>?_⟩;subst e;rw[how]at g1;exact ha r (yA g1).symm
       have dH:fj P c.nt o K' fr E.H=(((hi-lo≠0/\hi-lo<=cc-lo/\(1=1)/\k.rw=Z/\[Value.int kk nn].length=1/\1≠0/\[Value.int kk nn].all cr=Z/\[Value.int kk nn].all lN=Z)/\∃cs,fW k.cells lo (List.replicate (hi-lo) [Value.int kk nn]).flatten=J cs/\K' fr (E.H.set id (J ⟨Z,cs⟩)))):=by
        unfold fj;rw[ho,hd];simp only[ha,he,be,mP,ht,hb]
       rw[dH,hfl];refine⟨⟨by omega,by omega,rfl,bc,rfl,by decide,yF,rfl⟩,cs,dQ,?_⟩;refine hk _ fr E1 hK ?_
       refine r.qV iW qI (λt' ht' te=>qt (t',[]) (λe=>te (gn Prod.fst e)) λr e=>te (gn Prod.fst e)) (λL hL=>⟨λi p g1 g2 g3=>⟨g1,g2⟩,λi p g1 g2 g3=>by omega⟩) (λ_ _=>rfl) (λ_=>.inl rfl)
        ⟨cy _,qI,λi _ hn=>⟨hn,jk i (λe=>by rw[e,how]at hn;cases hn),λh=>h⟩⟩ (λi k' hk'=>?_) (λi bY=>r.fresh i bY) (λ_ _ h1 h2=>.inl (by rw[h1]at h2;cases h2;rfl)) ?_ rfl r.pin
       ·by_cases e:i=id
        ·subst e;exact r.wf i k hb
        ·rw[jk i e]at hk';exact r.wf i k' hk'
       ·have hlr:(rows.take lo).length=lo:=by rw[nu];omega
        refine oS v1 (.fk how hG Qe rfl (by simp;omega) hc hm (λr' hJ=>?_) ⟨⟨by decide,rfl⟩,by rw[b1];exact hl⟩ λi r' j x y g1 g2 g3=>?_)
        ·rcases jY.1 hJ with h|h
         ·exact hr r' (Gv h)
         ·rcases jY.1 h with h|h
          ·rw[(nr.1 h).2];rfl
          ·exact hr r' (Ow h)
        ·have old:rows[i]? =J r'->¬(lo<=i/\i<hi)->PR E1 (J (cO (s,[]) i j)) x y:=λh1 h2=>by
          have hj:j=0:=by
           have:=hr r' (eo h1);have:=(cT.1 g2).1;omega
          subst hj;rw[b3 _ (by simp;omega)]at g3;exact(hh i r' 0 x y h1 g2 g3).move qI (qt _ (by simp[cO]) λr e=>by simp[cO]at e)
         rcases dK i lo with aN|aN
         ·rw[fw (by omega),l6,aB aN]at g1;exact old g1 (by omega)
         ·rw[fT (by omega),hlr]at g1;rcases dK i hi with cF|cF
          ·rw[fw (by simp;omega),Kz,aB (by omega)]at g1;cases g1;cases j with
           |succ j=>simp at g2
           |zero=>
            simp at g2;subst g2;have:=b4 (i-lo) (by simp;omega);rw[show lo+(i-lo)=0+i*1+0 by omega,g3,Kz,aB (by omega)]at this;cases this;exact .int kk nn
          ·rw[fT (by simp;omega),jd]at g1;simp only[Acb]at g1;rw[show hi+(i-lo-(hi-lo))=i by omega]at g1;exact old g1 (by omega)
     ·cases tq
    ·cases tq
   ·cases tq
  ·cases h
 ·cases h
end
end Go.Pm
