import Derived.Test.YtnojafnlicbhpaaGreatPmM
open Bool renaming false→aa,true→Z
open Option renaming none→ae,some→J
set_option linter.defProp false
namespace Go.Pm
open Go.Am
def ia:=@List.length_nil
def rj:=@Nat.mul_le_mul
def OH:=@List.drop_zero
def OI:=@Nat.div_add_mod
def a0y:=@Nat.div_lt_of_lt_mul
def a2f:=@List.replicate_succ
def a2g:=@List.length_replicate
def zG(es:Nat):PV->Option (List (List PV))
 | .sl Z bw rows=>if bw=es then J rows else ae
 |_=>ae
def qM(rows:List (List PV)):Bool:=rows.all (·.all λx=> !bK x)
def nQ(rows:List (List PV)):Bool:=rows.all (·.all ql)
def qj(es:Nat):PV->Option (List (List PV))
 | .sl Z bw rows=>if bw=es/\qM rows=Z then J rows else ae
 | .sl aa bw rows=>if bw=es then J rows else ae
 |_=>ae
def qJ(es:Nat)(pf:ah)(t:Nat):PF->Option (List (List PV)×ah)
 | .ls bw rows=>if bw=es then J (rows,(pf.bS t jP).kill t 0)else ae
 |y=>(dR pf y).bind λx=>(qj es x).map λrows=>(rows,pf)
def pi(es:Nat)(pf:ah):Operand->Option (List (List PV)×ah)
 | .tmp t=>if t<0 then ae else qJ es pf t (pf t)
 | .const (.slice ae 0 0)=>J ([],pf)
 |_=>ae
def MA(c:aY)(z:Nat×Nat×List PV)(d:Option Tmp)(K:ah->Prop)(rows:List (List PV)):Option (List (List PV)×ah)->Prop
 |some (rows2,bV)=>nQ rows2=Z/\((rows.length+rows2.length)*z.2.1<=140737488355328/\rows.length+rows2.length<=4611686018427387904)/\
  dC c K d (.v (.sl Z z.1 (rows++rows2))) bV
 |none=>False
def Og(c:aY)(z:Nat×Nat×List PV)(x:Operand)(d:Option Tmp)(K:ah->Prop):Option (PV×ah)->Prop
 |some (b,aQ)=>match zG z.1 b with
  |some rows=>MA c z d K rows (pi z.1 aQ x)
  |none=>False
 |none=>False
def DO(P:Program)(c:aY)(t:TypeId)(s x:Operand)(d:Option Tmp)(K:ah->Prop)(pf:ah):Prop:=
 match ez P t with
 |some z=>Og c z x d K (eu z.1 pf s)
 |none=>False
def XD:PF->Bool
 | .v _| .rf _ _=>Z
 |_=>aa
def O5(c:aY)(z:Nat×Nat×List PV)(d:Tmp)(n:Nat)(K:ah->Prop):Option (PV×ah)->Prop
 |some (b,aQ)=>match zG z.1 b with
  |some rows=>(nQ [uz (rQ c (J d)) z.2.2]=Z/\(rows.length+n)*z.2.1<=140737488355328/\rows.length+n<=4611686018427387904)/\dC c K (J d) (.v (.sl Z z.1 (rows++List.replicate n (uz (rQ c (J d)) z.2.2)))) aQ
  |none=>False
 |none=>False
def Jm(P:Program)(c:aY)(t t':TypeId)(s x:Operand)(d:Option Tmp)(K:ah->Prop)(pf:ah):Prop:=
 match d,ez P t,cq pf x,s with
 |some d,J z,J (.int .i64 n),.tmp q=>(c.hp≠[]/\(jW P t').isSome=Z/\XD (pf q)=Z/\0<n/\(z.2.1:Int)*n<=140737488355328/\n<=4611686018427387904)/\O5 c z d n.toNat K (eu z.1 pf (.tmp q))
 |_,_,_,_=>False
def zCk(P:Program)(t:TypeId)(pf:ah):PF->Option ah
 | .rv s [] lo hi=>match ez P t,pf s with
  |some (1,_,[.int k n]),.v (.sl Z 1 rows)=>if lo<hi/\hi<=rows.length then J ((pf.bS s (.v (.sl Z 1 (rows.take lo++(List.replicate (hi-lo) [.int k n]++rows.drop hi))))).kill s 1)else ae
  |_,_=>ae
 |_=>ae
def PP(c:aY)(K:ah->Prop):Option ah->Prop
 |some pf'=>c.hp≠[]/\K pf'
 |none=>False
def Oj(P:Program)(c:aY)(d:Option Tmp)(K:ah->Prop)(pf:ah):List Operand->Array TypeId->Prop
 |[.tmp q],⟨[t]⟩=>d=ae/\PP c K (zCk P t pf (pf q))
 |_,_=>False
def ZX:List PV->Option Int
 |[.int .u8 n]=>J n
 |_=>ae
def ux:List (List PV)->Option (List Int)
 |[]=>J []
 |r::rs=>(ZX r).bind λn=>(ux rs).map (n:: ·)
def yH(P:Program)(s:TypeId)(pf:ah)(x:Operand):Option (PF×ah):=
 if tO P s=Z then(pi 1 pf x).bind λz=>(ux z.1).map λns=>(.v (.str (xQ ns)),z.2)else ae
def Hw:PF->Bool
 | .ls es _=>es==1
 |_=>aa
def Jb(pf:ah):Operand->Bool
 | .tmp u=>Hw (pf u)
 |_=>aa
def xw(P:Program)(c:aY)(s t:TypeId)(x:Operand)(d:Option Tmp)(K:ah->Prop)(pf:ah):Prop:=
 match d,yH P s pf x with
 |some d,J (y,bV)=>dU P t=Z/\dC c K (J d) y bV
 |_,_=>False
section
variable {nt:Nat}{pin:List (Nat×Value)}{E0 E E':Env}{pf:ah}{fr ai:FR}{c:aY}{P:Program}
variable{K:ah->Prop}{K':FR->AH->Prop}{R:Nat×aA}{args:Array Operand}{es n:Nat}{f:Nat×aA->Option (Nat×aA)}{o:Oper}{rows2:List (List PV)}{t:TypeId}{x:Operand}
def zy2:∀{ts us:List Nat}{fr:FR}{H:AH},oI (ts++us) fr H=(oI ts fr H).bind λx=>oI us x.1 x.2:=by
 intro ts;induction ts with
 |nil=>intro us fr H;rfl
 |cons t ts ih=>
  intro us fr H;simp only[t5,oI];split
  ·exact ih
  ·rfl
def ZF{hb:Bool}:∀{xs:List Operand}{E:Env}{pf pf':ah}{fr:FR}{ys:List PV},aq nt pin E0 E pf fr->rM hb pf xs=J (ys,pf')->
 ∃vs ai E' ts,oI ts fr E.H=J (ai,E'.H)/\(hb=aa->ts=[])/\(∀t w,fr t=.v w->ai t=.v w)/\(∀dI,(∀t w,ai t=.v w->dI t=.v w)->∀H,cn dI H xs=J (vs,dI,H))/\GK E E'/\aq nt pin E0 E' pf' ai/\vs.length=ys.length/\ys.length=xs.length/\∀(k:Nat) (y:PV) (v:Value),ys[k]? =J y->vs[k]? =J v->PR E' ae y v:=by
 intro xs;induction xs with
 |nil=>
  intro E pf pf' fr ys r h;simp only[rM,aT,b9]at h;obtain⟨rfl,rfl⟩:=h;exact⟨[],fr,E,[],rfl,λ_=>rfl,λ_ _ h=>h,λdI _ H=>rfl,GK.refl E,r,rfl,rfl,λk y v h=>by simp at h⟩
 |cons x xs ih=>
  intro E pf pf' fr ys r h;simp only[rM,bR,bN,b9]at h;obtain⟨⟨y,aQ⟩,h1,⟨Ua,bV⟩,h2,rfl,rfl⟩:=h;obtain⟨v,fr1,E1,ts1,l1,e1,s1,m1,g1,r1,p1⟩:=zwh r h1;obtain⟨vs,dI,E2,ts2,l2,e2,s2,m2,g2,r2,k2,k3,p2⟩:=ih r1 h2;refine⟨v::vs,dI,E2,ts1++ts2,by rw[zy2,l1];exact l2,λhh=>by rw[e1 hh,e2 hh];rfl,λt w hw=>s2 t w (s1 t w hw),λZ7 hh H=>?_,g1.trans g2,r2,by simp[k2],by simp[k3],λk z w hz hw=>?_⟩
  ·have a1:=m1 Z7 (λt w hw=>hh t w (s2 t w hw)) H;have a2:=m2 Z7 hh H;simp[cn,a1,a2]
  ·cases k with
   |zero=>simp at hz hw;subst hz;subst hw;exact p1.mono g2
   |succ k=>exact p2 k z w (by simpa using hz) (by simpa using hw)
def zuG(r:aq c.nt pin E0 E pf fr)(hp:ep c pin){fn:Fn}{xs ys:Array Operand}(ho:o.op=.makeFunc fn xs ys)(h:EO c fn xs.toList ys.toList o.dst K pf)
(hk:∀pf' ai E',K pf'->aq c.nt pin E0 E' pf' ai->K' ai E'.H):aM P c.nt o K' fr E.H\/(c.hp≠[]/\fo P c.nt o K' fr E.H):=by
 obtain⟨d,op,ty,pp,af,g⟩:=o;simp only at ho h;subst ho;unfold EO at h;split at h
 ·split at h
  ·rename_i y aQ hy;obtain⟨⟨gg,s,zs⟩,h1,h2⟩:=bR.1 hy;simp only[IW,bN,b9]at h2;obtain⟨⟨us,bV⟩,hf,rfl,rfl⟩:=h2;unfold Ko at h1;split at h1
   ·rename_i gg' s' zs' ic zI;split at h1
    ·rename_i row fH;cases h1;obtain⟨v,g1,_⟩:=gi (by have:=r.f s;rw[fH]at this;exact this) (by simp)
     have hs:s<c.nt:=by
      rcases dK s c.nt with h1|h1
      ·exact h1
      ·have:=r.hi s h1;rw[fH]at this;cases this
     obtain⟨ws,fr1,E1,ts,ly,e1,s1,m1,g2,r1,l1,l2,p1⟩:=ZF r hf;have g3:=s1 s v g1;have hK:=jk (K':=K') r1 hp (y:=.cl s gg us) rfl hs (fv:=.v (.func (.func gg) #[] (v::ws).toArray)) ⟨v,ws,rfl,.inl ⟨v,g3,rfl⟩,l1.symm,p1⟩ h hk;have ey:xs.size=0:=by have:=gn List.length ic;simpa using this
     have hA:dA P c.nt ⟨d,.makeFunc (.func gg) xs ys,ty,pp,af,g⟩ K' fr1 E1.H:=by
      have hm:cn fr1 E1.H (xs.toList++ys.toList)=J (v::ws,fr1,E1.H):=by
       rw[ic,zI];have:=m1 fr1 (λ_ _ h=>h) E1.H;simp[cn,bh,g3,this]
      simp only[dA,gw,hm,eD,ey];exact hK
     cases o4:c.hp.isEmpty with
     |true=>
      rw[e1 (by rw[o4];rfl)]at ly;simp only[oI,aT,b9]at ly;obtain⟨e2,e3⟩:=ly;rw[<-e2,<-e3]at hA;exact .inl hA
     |false=>
      have hne:c.hp≠[]:=λe=>by rw[e]at o4;cases o4
      exact .inr ⟨hne,ts,fr1,E1.H,ly,hA⟩
    ·cases h1
   ·cases h1
  ·cases h
 split at h
 ·rename_i vs aQ hf;obtain⟨ws,fr1,E1,ts,ly,e1,s1,m1,g1,r1,l1,l2,p1⟩:=ZF r hf;have ey:xs.size=xs.toList.length:=by simp
  have hv:PR E1 ae (.func fn (vs.take xs.toList.length) (vs.drop xs.toList.length)) (.func fn (ws.take xs.size).toArray (ws.drop xs.size).toArray):=by
   rw[ey];refine .func fn (by simp[l1]) (by simp[l1]) (λi x y a b=>?_) λi x y a b=>?_
   ·have b:(ws.take xs.toList.length)[i]? =J y:=by simpa using b
    rw[l6]at a b;split at a
    ·rename_i hlt;rw[aB hlt]at b;exact p1 i x y a b
    ·cases a
   ·have b:(ws.drop xs.toList.length)[i]? =J y:=by simpa using b
    rw[jd]at a b;exact p1 _ x y a b
  have hK:=gC r1 hp hv.up h hk
  have hA:dA P c.nt ⟨d,.makeFunc fn xs ys,ty,pp,af,g⟩ K' fr1 E1.H:=by
   simp only[dA,gw,m1 fr1 (λ_ _ h=>h),eD];exact hK
  cases o4:c.hp.isEmpty with
  |true=>
   rw[e1 (by rw[o4];rfl)]at ly;simp only[oI,aT,b9]at ly;obtain⟨e2,e3⟩:=ly;rw[<-e2,<-e3]at hA;exact .inl hA
  |false=>
   have hne:c.hp≠[]:=λe=>by rw[e]at o4;cases o4
   exact .inr ⟨hne,ts,fr1,E1.H,ly,hA⟩
 ·cases h
structure En (E:Env) (es:Nat) (rows:List (List PV)) (new:List Value) (T:Lo) (f:Nat×aA->Option (Nat×aA)) (n:Nat) (R:Nat×aA):Prop where
 len:new.length=rows.length*es
 rl:∀r,r∈rows->r.length=es
 el:∀(i:Nat) (r:List PV) (j:Nat) (x:PV) (y:Value),rows[i]? =J r->r[j]? =J x->new[i*es+j]? =J y->PR E (T.ch i j) x y
 mv:∀a,T=J a->∀i j r,f (a.1,a.2++(i,j)::r)=J (R.1,R.2++(n+i,j)::r)
def QK{cc:Nat}{rows:List (List PV)}{old new cells2:List Value}{T:Lo}{id2:Nat}
(h00:es≠0)(h0:∀(i:Nat) (r:List PV) (j:Nat) (x:PV) (y:Value),rows[i]? =J r->r[j]? =J x->old[i*es+j]? =J y->PR E (J (cO R i j)) x y)(hr:∀r,r∈rows->r.length=es)(hn:rows.length=n)
(hs:En E es rows2 new T f n R)(hg:GK E E')(dH:∀i j,du E E' (J (cO R i j)) (J (cO R i j)))(qT:∀a b:Nat×aA,(∀r,f (a.1,a.2++r)=J (b.1,b.2++r))->du E E' (J a) (J b))
(ho:E'.ow id2=J R)(hG:¬E'.G id2)(hb:E'.H.b id2=J ⟨Z,cells2⟩)(qm:n+rows2.length<=cc)(hl:cc*es<=cells2.length)(hm:n+rows2.length<=km)
(c1:∀q,q<n*es->cells2[q]? =old[q]?)(c2:∀q,q<new.length->cells2[n*es+q]? =new[q]?):
 PR E' (J R) (.sl Z es (rows++rows2)) (.slice (J ⟨id2,0,J es⟩) (n+rows2.length) cc):=by
 refine .fk ho hG hb rfl (by simp[hn]) qm hm (λr h=>?_) ⟨⟨h00,rfl⟩,by rw[gk];exact hl⟩ λi r j x y g1 g2 g3=>?_
 ·rcases jY.1 h with h|h
  ·exact hr r h
  ·exact hs.rl r h
 ·rw[gk]at g3;by_cases hi:i<rows.length
  ·rw[fw hi]at g1;have fj:=hr r (eo g1);have hj:j<es:=by have:=(cT.1 g2).1;omega
   have hlt:i*es+j<n*es:=by
    have:(i+1)*es<=n*es:=gA _ (by omega);rw[jZ]at this;omega
   rw[c1 _ hlt]at g3;exact(h0 i r j x y g1 g2 g3).move hg (dH i j)
  ·rw[fT (by omega)]at g1;have fj:=hs.rl r (eo g1);have hj:j<es:=by have:=(cT.1 g2).1;omega
   have cF:i-rows.length<rows2.length:=(cT.1 g1).1
   have hlt:(i-rows.length)*es+j<new.length:=by
    rw[hs.len];have:(i-rows.length+1)*es<=rows2.length*es:=gA _ (by omega);rw[jZ]at this;omega
   have e:i*es+j=n*es+((i-rows.length)*es+j):=by
    rw[<-iN,<-nT];congr 2;omega
   rw[e,c2 _ hlt]at g3;have eV:=hs.el _ r j x y g1 g2 g3;cases T with
   |none=>exact eV.move hg True.intro
   |some a=>
    refine eV.move hg (qT (cO a (i-rows.length) j) (cO R i j) λq=>?_);have:=hs.mv a rfl (i-rows.length) j q;rw[show n+(i-rows.length)=i by omega]at this;simpa[cO]using this
def ZH(ok:d7 E){g:Bool}{e:TypeId}{cB:Nat}{z:List Value}(he:cS P t=J e)(ht:cA P e=J (g,es,cB,z))(hz:z.length=es)(h0:es≠0)
{rows:List (List PV)}{sv:Value}{new:List Value}{T:Lo}(hx:PR E (J R) (.sl Z es rows) sv)
(hs:En E es rows2 new T f rows.length R)(zY:new.all lQ=Z)(FN:∀r,f (R.1,R.2++r)=ae)
(eJ:(rows.length+rows2.length)*cB<=140737488355328)(fX:rows.length+rows2.length<=4611686018427387904):
 ∃v E',su P t sv new rows2.length E.H=J (v,E'.H)/\d7 E'/\fU E E'/\PR E' (J R) (.sl Z es (rows++rows2)) v/\
  (∀a:Nat×aA,(∀r,f (a.1,a.2++r)=ae)->(∀r,(a.1,a.2++r)≠R)->du E E' (J a) (J a)):=by
 have yT:¬(es=0\/z.length≠es\/new.all lQ=aa):=by
  rintro(h|h|h)
  ·exact h0 h
  ·exact h hz
  ·rw[zY]at h;cases h
 have Rk:∀(a:Nat×aA) i j,(∀r,f (a.1,a.2++r)=ae)->∀r,f ((cO a i j).1,(cO a i j).2++r)=ae:=λa i j h r=>by rw[xE];exact h _
 by_cases hm:rows2.length=0
 ·
  have hr2:rows2=[]:=mL hm;subst hr2;refine⟨sv,E,?_,ok,fU.refl E,by simpa using hx,λa _ _=>.refl _⟩;simp only[su,he,ht,az yT];cases hx with
  |sl0 _ _=>simp
  |fk how hG hb bc hn hc gE hr hl hh=>simp
 ·cases hx with
  |sl0 _ _=>
   simp only[ia,gk]at eJ fX;refine⟨.slice (J ⟨E.H.n,0,J es⟩) rows2.length rows2.length,E.push ⟨Z,new⟩ R f,?_,ok.push,ok.uZ,?_,λa h1 _=>ok.mW h1⟩
   ·simp only[su,he,ht,az yT,az hm];rw[aB ⟨eJ,fX⟩];rfl
   ·have:=QK (E:=E) (E':=E.push ⟨Z,new⟩ R f) (rows:=[]) (rows2:=rows2) (old:=[]) (new:=new) (cells2:=new) (R:=R) (T:=T) (f:=f) (id2:=E.H.n) (n:=0) (cc:=rows2.length) h0 (λi r j x y h=>by simp at h) (λr h=>by cases h) rfl hs ok.nr
     (λi j=>ok.mW (Rk R i j FN)) (λa b h=>ok.Tt h) zhw ok.xJ yr (by omega) (by rw[hs.len];exact cy _) (by unfold km;omega) (λq hq=>by omega) (λq hq=>by simp)
    simpa using this
  | @fk _ id off _ n c k _ how hG hb bc hn hc gE hr hl hh=>
   obtain⟨⟨za,rfl⟩,hl⟩:=hl;subst hn;rw[gk]at hl;have hlen:rows.length*es<=k.cells.length:=gj (gA _ hc) hl;have hko:k=⟨Z,k.cells⟩:=by obtain⟨q,cs⟩:=k;simp only at bc;subst bc;rfl
   have hold:∀(i:Nat) (r:List PV) (j:Nat) (x:PV) (y:Value),rows[i]? =J r->r[j]? =J x->k.cells[i*es+j]? =J y->PR E (J (cO R i j)) x y:=
    λi r j x y a1 a2 a3=>hh i r j x y a1 a2 (by rw[gk];exact a3)
   have ot:new.length=rows2.length*es:=hs.len
   have hne:new≠[]:=by
    intro e;rw[e]at ot;have:1*1<=rows2.length*es:=rj (by omega) (by omega);simp at ot;omega
   have UZ:∀a:Nat×aA,(∀r,(a.1,a.2++r)≠R)->∀i r,E.ow i=J (a.1,a.2++r)->i≠id:=λa ha i r h e=>by
    subst e;rw[how]at h;exact ha r (yB h).symm
   have VM:∀i j,∀r,((cO R i j).1,(cO R i j).2++r)≠R:=λi j r e=>by
    have:=gn (λz=>z.2.length) e;simp[cO]at this
   by_cases nH:rows.length+rows2.length<=c
   ·
    have IV:(rows.length+rows2.length)*es<=c*es:=gA _ nH;rw[nT]at IV;obtain⟨cs,dP⟩:=F4 (cs:=k.cells) (n:=0+rows.length*es) hne (by omega);obtain⟨b1,b2,b3,b4⟩:=EC hne dP;rw[gk]at b2 b3 b4
    let E1:Env:=⟨E.H.set id (J ⟨Z,cs⟩),E.G,λi=>(E.ow i).map λx=>(f x).getD x⟩
    have jr:∀i,i≠id->E1.H.b i=E.H.b i:=λi hi=>by simp[E1,AH.set,hi]
    have hg:GK E E1:=λi hi=>⟨hi,λk0 oL=>⟨k0,(jr i λe=>hG (by rw[<-e];exact hi)).trans oL,rfl⟩⟩
    have TQ:d7 E1:=⟨λi k0 oL=>by
     by_cases e:i=id
     ·subst e;exact ok.wf i k hb
     ·rw[jr i e]at oL;exact ok.wf i k0 oL,λi hi=>by
     obtain⟨g1,g2⟩:=ok.fresh i hi
     exact⟨by simp[E1,g1],g2⟩⟩
    have dH:∀a:Nat×aA,(∀r,f (a.1,a.2++r)=ae)->(∀r,(a.1,a.2++r)≠R)->du E E1 (J a) (J a):=λa h1 h2 i r g1 g2=>
     ⟨by simp[E1,g1,h1],g2,jr i (UZ a h2 i r g1)⟩
    have qT:∀a b:Nat×aA,(∀r,f (a.1,a.2++r)=J (b.1,b.2++r))->du E E1 (J a) (J b):=λa b h i r g1 g2=>
     ⟨by simp[E1,g1,h],g2,jr i λe=>by
       subst e;rw[how]at g1;have:=h r;rw[<-yB g1]at this;have h3:=FN [];rw[Fq]at h3
       rw[h3]at this;cases this⟩
    have hR1:E1.ow id=J R:=by
     have h3:=FN [];rw[Fq]at h3;simp[E1,how,h3]
    refine⟨.slice (J ⟨id,0,J es⟩) (rows.length+rows2.length) c,E1,?_,TQ,⟨cy _,hg,λi _ hi=>⟨by simp[E1,hi],jr i (λe=>by rw[e,how]at hi;cases hi),λh=>h⟩⟩,?_,dH⟩
    ·simp only[su,he,ht,az yT,az hm,hb];rw[aB ⟨bc,trivial,by omega,eJ,fX⟩,aB nH,dP]
    ·exact QK (cells2:=cs) za hold hr rfl hs hg (λi j=>dH _ (Rk R i j FN) (VM i j)) qT hR1 hG (by simp[E1,AH.set]) nH (by rw[b1];exact hl) (by unfold km;omega)
      (λq hq=>b3 q (by omega)) (λq hq=>b4 q hq)
   ·
    let cells2:=k.cells.take (rows.length*es)++new
    have a1P:cells2.length=(rows.length+rows2.length)*es:=by simp[cells2,ot,nT];omega
    let E1:Env:=⟨(E.H.set id ae).push ⟨Z,cells2⟩,E.G,λi=>if i=E.H.n then J R else(E.ow i).map λx=>(f x).getD x⟩
    have a2y:id<E.H.n:=ok.wf id k hb
    have jr:∀i,i≠id->i<E.H.n->E1.H.b i=E.H.b i:=λi hi hlt=>by
     simp only[E1,AH.push,AH.set];have h9:i≠E.H.n:=sD hlt;simp[h9,hi]
    have a0T:E1.H.b E.H.n=J ⟨Z,cells2⟩:=by simp[E1,AH.push,AH.set]
    have hg:GK E E1:=λi hi=>⟨hi,λk0 oL=>⟨k0,(jr i (λe=>hG (by rw[<-e];exact hi)) (ok.YG hi)).trans oL,rfl⟩⟩
    have TQ:d7 E1:=⟨λi k0 oL=>by
     show i<E.H.n+1;by_cases h9:i<E.H.n
     ·omega
     ·by_cases h8:i=E.H.n
      ·omega
      ·have h7:i≠id:=by omega
       simp[E1,AH.push,AH.set,h8,h7]at oL;have:=ok.wf i k0 oL;omega,λi hi=>by
     have hi:E.H.n+1<=i:=hi;obtain⟨g1,g2⟩:=ok.fresh i (by omega)
     exact⟨by simp only[E1];rw[az (by omega),g1];rfl,g2⟩⟩
    have dH:∀a:Nat×aA,(∀r,f (a.1,a.2++r)=ae)->(∀r,(a.1,a.2++r)≠R)->du E E1 (J a) (J a):=λa h1 h2 i r g1 g2=>
     ⟨by simp only[E1];rw[az (sD (ok.lt g1)),g1];simp[h1],g2,jr i (UZ a h2 i r g1) (ok.lt g1)⟩
    have qT:∀a b:Nat×aA,(∀r,f (a.1,a.2++r)=J (b.1,b.2++r))->du E E1 (J a) (J b):=λa b h i r g1 g2=>
     ⟨by simp only[E1];rw[az (sD (ok.lt g1)),g1];simp[h],g2,jr i (λe=>by
       subst e;rw[how]at g1;have:=h r;rw[<-yB g1]at this;have h3:=FN [];rw[Fq]at h3
       rw[h3]at this;cases this) (ok.lt g1)⟩
    have mV:(k.cells.take (rows.length*es)).length=rows.length*es:=by rw[nv];omega
    refine⟨.slice (J ⟨E.H.n,0,J es⟩) (rows.length+rows2.length) (rows.length+rows2.length),E1,?_,TQ,
     ⟨C8 _,hg,λi h1 hi=>⟨by simp only[E1];rw[az (sD h1),hi];rfl,jr i (λe=>by rw[e,how]at hi;cases hi) h1,λh=>h⟩⟩,?_,dH⟩
    ·simp only[su,he,ht,az yT,az hm,hb];rw[aB ⟨bc,trivial,by omega,eJ,fX⟩,az nH,aB trivial]
    ·exact QK (cells2:=cells2) za hold hr rfl hs hg (λi j=>dH _ (Rk R i j FN) (VM i j)) qT (by simp[E1]) (λh=>(ok.fresh _ (cy _)).2 h) a0T (cy _) (by rw[a1P];exact cy _) (by unfold km;omega)
      (λq hq=>by simp only[cells2];rw[fw (by omega),l6,aB hq]) (λq hq=>by simp only[cells2];rw[fT (by omega),mV];congr 1;omega)
def PJ :En E es [] [] ae f n R:=⟨by simp,λr h=>(by cases h),λi r j x y h=>(by simp at h),λa h=>(by cases h)⟩
def Ei(r:aq nt pin E0 E pf fr){bV:ah}(hR:R.1=nt){g:Bool}{e:TypeId}{cB:Nat}{z:List Value}(he:cS P t=J e)(ht:cA P e=J (g,es,cB,z))(h0:es≠0)
(h:pi es pf x=J (rows2,bV)):
 ∃new T f,iq P t fr E.H x=J (new,rows2.length)/\En E es rows2 new T f n R/\(∀r,f (R.1,R.2++r)=ae)/\
  (∀E',d7 E'->fU E E'->(∀a:Nat×aA,(∀r,f (a.1,a.2++r)=ae)->a.1<nt->du E E' (J a) (J a))->aq nt pin E0 E' bV fr):=by
 have MY:∀{t':Nat}{v:Value}{y:PV},fr t'=.v v->(∃l,PR E l y v)->qj es y=J rows2->
  ∃new,iq P t fr E.H (.tmp t')=J (new,rows2.length)/\En E es rows2 new ae (λ_=>ae) n R:=by
  intro t' v y hv eV hy;obtain⟨l,eV⟩:=eV;unfold qj at hy;split at hy
  ·rename_i bw rows;split at hy
   ·rename_i hc;obtain⟨rfl,qP⟩:=hc;simp only[aT]at hy;subst hy;cases eV with
    |sl0 _ _=>exact⟨[],by simp[iq,he,ht,hv],PJ⟩
    | @fk l id off _ m cc k _ how hG hb bc hn hc gE hr hl hh=>
     obtain⟨⟨za,rfl⟩,hl⟩:=hl;rw[gk]at hl;have hlen:m*bw<=k.cells.length:=gj (gA _ hc) hl;refine⟨k.cells.take (m*bw),?_,?_,hr,λi r j x y g1 g2 g3=>?_,λa h=>(by cases h)⟩
     ·simp only[iq,he,ht,hv];by_cases rN:m=0
      ·subst rN;rw[aB rfl];simp[hn]
      ·rw[az rN,az (by simp)];simp only[AH.load,hb,l9,aR,OH,Dw hlen,hn]
     ·rw[nv,hn];omega
     ·have fj:=hr r (eo g1);have hj:j<bw:=by have:=(cT.1 g2).1;omega
      have hi:i<m:=by have:=(cT.1 g1).1;omega
      have hlt:i*bw+j<m*bw:=by
       have:(i+1)*bw<=m*bw:=gA _ (by omega);rw[jZ]at this;omega
      rw[l6,aB hlt]at g3;refine(hh i r j x y g1 g2 (by rw[gk];exact g3)).free ?_;have h1:=bm.1 qP r (eo g1);have h2:=bm.1 h1 x (eo g2);simpa using h2
   ·cases hy
  ·rename_i bw rows;split at hy
   ·rename_i hc;subst hc;simp only[aT]at hy;subst hy;cases eV with
    |sl0 _ _=>exact⟨[],by simp[iq,he,ht,hv],PJ⟩
    | @jF _ id off _ m cc k _ hG hb hn hc gE hr hl hh=>
     obtain⟨za,hl⟩:=hl;have hlen:m*bw<=(k.cells.drop off).length:=by simp;omega
     refine⟨(k.cells.drop off).take (m*bw),?_,?_,hr,λi r j x y g1 g2 g3=>?_,λa h=>(by cases h)⟩
     ·simp only[iq,he,ht,hv];by_cases rN:m=0
      ·subst rN;rw[aB rfl];simp[hn]
      ·rw[az rN,az (by simp)];simp only[AH.load,hb,l9,aR,Dw hlen,hn]
     ·rw[nv,hn];omega
     ·have fj:=hr r (eo g1);have hj:j<bw:=by have:=(cT.1 g2).1;omega
      have hi:i<m:=by have:=(cT.1 g1).1;omega
      have hlt:i*bw+j<m*bw:=by
       have:(i+1)*bw<=m*bw:=gA _ (by omega);rw[jZ]at this;omega
      rw[l6,aB hlt,jd]at g3;exact hh i r j x y g1 g2 (by rw[iN];exact g3)
   ·cases hy
  ·cases hy
 have sx:bV=pf->∀E',d7 E'->fU E E'->(∀a:Nat×aA,(∀r,(λ_:Nat×aA=>(ae:Option (Nat×aA))) (a.1,a.2++r)=ae)->a.1<nt->du E E' (J a) (J a))->aq nt pin E0 E' bV fr:=by
  intro e E' h1 h2 h3;subst e;exact r.env h1 h2 λs hs=>h3 (s,[]) (λ_=>rfl) hs
 cases x with
 |const k=>
  have hk:k=.slice ae 0 0:=by
   unfold pi at h;split at h
   ·rename_i xA;cases xA
   ·rename_i xA;cases xA;rfl
   ·cases h
  subst hk;simp only[pi,aT,b9]at h;obtain⟨rfl,rfl⟩:=h;exact⟨[],ae,λ_=>ae,by simp[iq,he,ht],PJ,λ_=>rfl,sx rfl⟩
 |tmp t'=>
  simp only[pi,A1,l7]at h;have hf:=r.f t'
  have mV:t'<nt:=by
   rcases dK t' nt with h1|h1
   ·exact h1
   ·rw[r.hi t' h1]at h;simp[qJ,jP,dR,qj]at h
  cases aE:pf t' with
  |ls bw rows=>
   rw[aE]at h hf;simp only[qJ]at h;split at h
   ·rename_i hes;subst hes;simp only[aT,b9]at h;obtain⟨rfl,rfl⟩:=h;obtain⟨cells,c1,c2,c3,c4,c5⟩:=hf
    let f:Nat×aA->Option (Nat×aA):=λx=>if x.1=t' then match x.2 with
     |(i,j)::r=>J (R.1,R.2++(n+i,j)::r)
     |[]=>ae else ae
    refine⟨cells,J (t',[]),f,by simp[iq,he,ht,c1],⟨c2,c4,λi r j x y g1 g2 g3=>by simpa[Lo.ch,cO]using c5 i r j x y g1 g2 g3,λa ha i j q=>?_⟩,λq=>?_,λE' h1 h2 h3=>?_⟩
    ·cases ha;simp[f]
    ·have:R.1≠t':=λe=>by rw[hR]at e;exact yA _ (e▸mV)
     simp[f,this]
    ·refine r.qs mV h2.g (λs hs dH=>h3 (s,[]) (λq=>by simp[f,dH]) hs) (λL hL=>absurd hL (A1 _)) (λ_ _=>rfl) (λh=>absurd h (yA _)) h2 h1.wf h1.fresh (λ_ _ h1 h2=>.inl (by rw[h1]at h2;cases h2;rfl)) wA rfl r.pin
   ·cases h
  |v x=>
   rw[aE]at h hf;simp only[qJ,dR,aR,bN,b9]at h;obtain⟨rows,h1,rfl,rfl⟩:=h;obtain⟨v,h2,h3⟩:=gi hf (by rintro rfl;simp[qj]at h1);obtain⟨new,q1,q2⟩:=MY h2 ⟨_,h3⟩ h1;exact⟨new,ae,_,q1,q2,λ_=>rfl,sx rfl⟩
  |rf s p=>
   rw[aE]at h hf;simp only[qJ,dR,bR,bN,b9]at h;obtain⟨x,hx,rows,h1,rfl,rfl⟩:=h;obtain⟨v,h2,h3⟩:=hf;obtain⟨v',w1,w2⟩:=r.at hx (by rintro rfl;simp[qj]at h1) (iQ r h3 hx);have:=w1.same h3;subst this;obtain⟨new,q1,q2⟩:=MY h2 ⟨_,w2⟩ h1;exact⟨new,ae,_,q1,q2,λ_=>rfl,sx rfl⟩
  |rv s p lo hi=>
   rw[aE]at h hf;simp only[qJ,dR,bR,bN,b9]at h;obtain⟨x,⟨y,hy,gu⟩,rows,h1,rfl,rfl⟩:=h;unfold FF at gu;split at gu
   ·rename_i o bw a12;split at gu
    ·rename_i hb;simp only[aT]at gu;subst gu;rcases hf with⟨h2,h3,rfl,rfl⟩|⟨id,off,es2,m,cc,h2,h3,h4,h5⟩
     ·obtain⟨new,q1,q2⟩:=MY h3 ⟨ae,by simpa using PR.sl0 (E:=E) (l:=ae) o bw⟩ h1;exact⟨new,ae,_,q1,q2,λ_=>rfl,sx rfl⟩
     ·obtain⟨v',w1,w2⟩:=r.at hy (by simp) (iQ r h2 hy);have:=w1.same h2;subst this;have ee:=zO w2;subst ee;cases o with
      |false=>
       obtain⟨_,_,_,e3⟩:=w2.cut h3 h4;obtain⟨new,q1,q2⟩:=MY h5 ⟨_,e3⟩ h1;exact⟨new,ae,_,q1,q2,λ_=>rfl,sx rfl⟩
      |true=>
       simp only[qj]at h1;split at h1
       ·rename_i hc;obtain⟨rfl,qP⟩:=hc;simp only[aT]at h1;subst h1;cases w2 with
        | @fk l id off _ m cc k _ how hG gD bc hn hc gE hr hl hh=>
         obtain⟨⟨za,rfl⟩,hl⟩:=hl;rw[gk]at hl h5;have hhi:hi*bw<=k.cells.length:=gj (gA _ (by omega)) hl;have a2F:lo*bw+(hi-lo)*bw=hi*bw:=by rw[<-nT];congr 1;omega
         have hlen:(hi-lo)*bw<=(k.cells.drop (lo*bw)).length:=by simp;omega
         have fj:((a12.take hi).drop lo).length=hi-lo:=by simp;omega
         refine⟨(k.cells.drop (lo*bw)).take ((hi-lo)*bw),ae,λ_=>ae,?_,⟨?_,λr gX=>hr r (Gy (OC gX)),λi r j x y g1 g2 g3=>?_,λa h=>(by cases h)⟩,λ_=>rfl,sx rfl⟩
         ·simp only[iq,he,ht,h5];by_cases rN:hi-lo=0
          ·rw[aB rN,rN];simp[fj,rN]
          ·rw[az rN,az (by simp)];simp only[AH.load,gD,l9,aR,Dw hlen,fj]
         ·rw[nv,fj];omega
         ·have g1':=g1;rw[jd,l6]at g1;split at g1
          ·rename_i a2u;have fj:=hr r (eo g1);have hj:j<bw:=by have:=(cT.1 g2).1;omega
           have hlt:i*bw+j<(hi-lo)*bw:=by
            have:(i+1)*bw<=(hi-lo)*bw:=gA _ (by omega);rw[jZ]at this;omega
           rw[l6,aB hlt,jd]at g3;refine(hh (lo+i) r j x y g1 g2 (by rw[gk,<-g3];congr 1;rw[nT];omega)).free ?_;have h1:=bm.1 qP r (eo g1');have h2:=bm.1 h1 x (eo g2);simpa using h2
          ·cases g1
       ·cases h1
    ·cases gu
   ·cases gu
  |ra s p i j m=>
   rw[aE]at h;simp only[qJ,dR,bR,bN,b9]at h;obtain⟨x,⟨y,_,nj⟩,rows,h1,_⟩:=h;unfold yb at nj;split at nj
   ·cases nj;simp[qj]at h1
   ·cases nj
  |_=>rw[aE]at h;simp[qJ,dR]at h
 |func _=>simp[pi]at h
 |global _=>simp[pi]at h
def zwl:∀{rows:List (List PV)}{ns:List Int},ux rows=J ns->ns.length=rows.length/\∀(i:Nat) (n:Int),ns[i]? =J n->rows[i]? =J [.int .u8 n]:=by
 intro rows;induction rows with
 |nil=>intro ns h;simp only[ux,aT]at h;subst h;exact⟨rfl,λi n h=>by simp at h⟩
 |cons r rs ih=>
  intro ns h;simp only[ux,bR,bN]at h;obtain⟨n,h1,ns',h2,rfl⟩:=h;obtain⟨i1,i2⟩:=ih h2
  have hr:r=[.int .u8 n]:=by
   unfold ZX at h1;split at h1
   ·cases h1;rfl
   ·cases h1
  refine⟨by simp[i1],λi k hk=>?_⟩;cases i with
  |zero=>simp at hk;subst hk;simp[hr]
  |succ i=>simpa using i2 i k (by simpa using hk)
def zoM(r:aq c.nt pin E0 E pf fr)(hp:ep c pin){s:TypeId}(ho:o.op=.convert s t x)(h:xw P c s t x o.dst K pf)
(hk:∀pf' ai E',K pf'->aq c.nt pin E0 E' pf' ai->K' ai E'.H):fo P c.nt o K' fr E.H:=by
 unfold xw at h;split at h
 ·rename_i d y bV hd hb;obtain⟨dH,h⟩:=h;unfold yH at hb;split at hb
  ·rename_i nh;simp only[bR,bN,b9]at hb;obtain⟨⟨rows,pf3⟩,h1,ns,h2,rfl,rfl⟩:=hb
   obtain⟨e,he,ht⟩:∃e,cS P s=J e/\∃g b z,cA P e=J (g,1,b,z):=by
    unfold tO at nh;split at nh
    ·rename_i e he;split at nh
     ·rename_i ht;exact⟨e,he,_,_,_,ht⟩
     ·cases nh
    ·cases nh
   obtain⟨g,b,z,ht⟩:=ht;obtain⟨new,T,f,q1,q2,_,q4⟩:=Ei (n:=0) (R:=(c.nt,[])) r rfl he ht (by omega) h1;have r2:=q4 E r.ok (fU.refl E) λa _ _=>λid q h1 h2=>⟨h1,h2,rfl⟩
   obtain⟨n1,n2⟩:=zwl h2
   have yT:new=ns.map (Value.int .u8):=by
    have hl:=q2.len;dsimp only at hl n1;rw[Ky]at hl;apply List.ext_getElem?;intro i;by_cases hi:i<new.length
    ·have cF:i<ns.length:=by omega
     have a1:ns[i]? =J ns[i]:=cE cF;have a2:=n2 i _ a1;have a3:new[i*1+0]? =J (new[i]'hi):=by simp[cE hi]
     have a4:=q2.el i _ 0 _ _ a2 rfl a3;rw[cE hi,Db,a1];generalize new[i]'hi=w at a4⊢;generalize T.ch i 0=lo at a4;cases a4;rfl
    ·rw[AZ (by omega),AZ (by simp;omega)]
   have vu:d<c.nt:=by
    have:=h.1;simp only[gO,bI,eC]at this;exact this.1.1
   have hK:=gC r2 hp (.str (xQ ns)) h hk;unfold fo;rw[ho,hd];simp only[q1];refine⟨⟨vu,nh,dH⟩,ns,yT,?_⟩;simpa[bB,vu]using hK
  ·cases hb
 ·cases h
def zBY(r:aq c.nt pin E0 E pf fr){s:TypeId}(ho:o.op=.convert s t x)(hl:Jb pf x=Z)(h:fo P c.nt o K' fr E.H):aM P c.nt o K' fr E.H:=by
 cases x with
 |tmp u=>
  obtain⟨rows,aE⟩:∃rows,pf u=.ls 1 rows:=by
   have hl:Hw (pf u)=Z:=hl;cases e:pf u with
   |ls es rows=>
    rw[e]at hl;have h1:es=1:=by simpa[Hw]using hl
    exact⟨rows,by rw[h1]⟩
   |_=>rw[e]at hl;cases hl
  have hf:=r.f u;rw[aE]at hf;obtain⟨cells,h1,_⟩:=hf;cases hd:o.dst with
  |none=>simp only[fo,ho,hd]at h
  |some d=>
   simp only[fo,ho,hd]at h;obtain⟨⟨k1,k2,k3⟩,h⟩:=h;split at h
   ·rename_i cs n iY;obtain⟨ns,rfl,hK⟩:=h;simp only[aM,ho];refine .inr ⟨⟨k2,k3,by rw[hd];rfl⟩,rows.length,ns,?_,by rw[hd];simpa[bB,k1]using hK⟩
    have hc:cells=ns.map (Value.int .u8):=by
     unfold iq at iY;split at iY
     ·cases iY
     ·split at iY
      ·cases iY
      ·simp only[h1]at iY;split at iY
       ·cases iY;rfl
       ·cases iY
    simp only[FB,h1,hc,eP]
   ·cases h
 |_=>cases hl
def zwB(r:aq c.nt pin E0 E pf fr)(hp:ep c pin){s:Operand}(ho:o.op=.call ⟨.builtin .append,args,#[t,t]⟩)(ha:args.toList=[s,x])(h:DO P c t s x o.dst K pf)
(hk:∀pf' ai E',K pf'->aq c.nt pin E0 E' pf' ai->K' ai E'.H):aM P c.nt o K' fr E.H:=by
 unfold DO at h;split at h
 ·rename_i z hz;obtain⟨e,g,es,b,zc,he,ht,rk,rz,As,rfl⟩:=CN hz;unfold Og at h;split at h
  ·rename_i y aQ jq;split at h
   ·rename_i rows mZ;obtain⟨sv,fr1,H1,E1,m1,e1,r1,f1⟩:=ug r (fl:=[]) (λk x v h=>by simp at h) jq;have hfl:PR E1 (J (c.nt,[(0,0)])) y sv:=f1 0 y sv rfl
    have hy:y=.sl Z es rows:=by
     unfold zG at mZ;split at mZ
     ·split at mZ
      ·rename_i hh;simp only[aT]at mZ;subst mZ;simp only at hh;rw[hh]
      ·cases mZ
     ·cases mZ
    subst hy;unfold MA at h;split at h
    ·rename_i rows2 bV AA;obtain⟨zY,⟨eJ,fX⟩,dn⟩:=h;simp only at eJ fX dn AA;obtain⟨new,T,f,q1,q2,q3,q4⟩:=Ei (P:=P) r1 (R:=(c.nt,[(0,0)])) (n:=rows.length) rfl he ht rz AA
     have QL:new.all lQ=Z:=by
      rw[bm];intro w hw;obtain⟨q,hq⟩:=OE hw;have hlt:q<rows2.length*es:=by have:=(cT.1 hq).1;rw[q2.len]at this;exact this
      have qD:0<es:=by omega
      have hi:q/es<rows2.length:=a0y (by rw[wc];exact hlt);have hj:q%es<es:=mN _ qD;have hr:=q2.rl _ (e9 hi)
      have hx:=q2.el (q/es) rows2[q/es] (q%es) (rows2[q/es][q%es]'(by omega)) w (cE hi) (cE _) (by
       rw[show q/es*es+q%es=q by rw[wc];exact OI q es];exact hq)
      have h1:=bm.1 zY _ (e9 hi);exact RW hx (bm.1 h1 _ (e9 _))
     obtain⟨v,E2,a1,a2,a3,a4,a5⟩:=ZH (P:=P) r1.ok he ht rk rz hfl q2 QL q3 eJ fX
     have r2:=q4 E2 a2 a3 λa h1 h2=>a5 a h1 λq e=>by
      have:=gn Prod.fst e;simp only at this;omega
     have:=gC r2 hp a4 dn hk;unfold aM;rw[ho];simp only[ha,m1];rw[aB trivial];rw[<-e1];simp only[q1,a1];exact this
    ·cases h
   ·cases h
  ·cases h
 ·cases h
def zDm(r:aq nt pin E0 E pf fr){z q:Nat}{y:PV}{aQ:ah}(h:eu z pf (.tmp q)=J (y,aQ))(hv:XD (pf q)=Z):∃v,fr q=.v v:=by
 have hf:=r.f q;simp only[eu]at h;cases aE:pf q with
 |v x=>
  rw[aE]at h hf;simp only[lz,zF]at h;split at h
  ·cases h
  ·rename_i hj;obtain⟨v,h1,_⟩:=gi hf (n5 (by simpa using hj));exact⟨v,h1⟩
 |rf s p=>
  rw[aE]at hf;obtain⟨v,h1,_⟩:=hf;exact⟨v,h1⟩
 |_=>rw[aE]at hv;cases hv
def zuk(r:aq c.nt pin E0 E pf fr)(hp:ep c pin){t':TypeId}{s:Operand}(ho:o.op=.call ⟨.builtin .append,args,#[t,t']⟩)(ha:args.toList=[s,x])(h:Jm P c t t' s x o.dst K pf)
(hk:∀pf' ai E',K pf'->aq c.nt pin E0 E' pf' ai->K' ai E'.H):c.hp≠[]/\fo P c.nt o K' fr E.H:=by
 unfold Jm at h;split at h
 ·rename_i d z n q hd hz hx;obtain⟨e,g,es,b,zc,he,ht,rk,rz,As,rfl⟩:=CN hz;obtain⟨⟨k1,k2,k3,k4,k5,k6⟩,h⟩:=h;refine⟨k1,?_⟩;unfold O5 at h;split at h
  ·rename_i y aQ jq;split at h
   ·rename_i rows mZ;obtain⟨⟨zY,eJ,fX⟩,dn⟩:=h;obtain⟨w,hw⟩:=zDm r jq k3;obtain⟨sv,fr1,H1,E1,m1,e1,r1,f1⟩:=ug r (fl:=[]) (λk x v h=>by simp at h) jq
    have hm:sv=w/\fr1=fr/\H1=E.H:=by
     simp only[bh,hw,aT,b9]at m1;exact⟨m1.1.symm,m1.2.1.symm,m1.2.2.symm⟩
    obtain⟨rfl,rfl,rfl⟩:=hm;have hfl:PR E1 (J (c.nt,[(0,0)])) y sv:=f1 0 y sv rfl
    have hy:y=.sl Z es rows:=by
     unfold zG at mZ;split at mZ
     ·split at mZ
      ·rename_i hh;simp only[aT]at mZ;subst mZ;simp only at hh;rw[hh]
      ·cases mZ
     ·cases mZ
    subst hy;simp only at zY eJ fX dn;have hlen:(List.replicate n.toNat (uz (rQ c (J d)) ((zz P e zc).map dz))).length=n.toNat:=by simp
    have qY:∀l,l∈List.replicate n.toNat zc->l.length=es:=λl hl=>by rw[(nu.1 hl).2];exact rk
    have q2:En E1 es (List.replicate n.toNat (uz (rQ c (J d)) ((zz P e zc).map dz))) (List.replicate n.toNat zc).flatten ae (λ_=>ae) rows.length (c.nt,[(0,0)]):=by
     refine⟨by rw[Ev qY];simp,λl hl=>by rw[(nu.1 hl).2,Hj];exact rk,λi l j x y g1 g2 g3=>?_,λa h=>by cases h⟩;have hi:i<n.toNat:=by have:=(cT.1 g1).1;simpa using this
     have bc:=(nu.1 (eo g1)).2;subst bc;have hj:j<es:=by have:=(cT.1 g2).1;rw[Hj]at this;omega
     rw[M3 qY (e:=zc) (by rw[KC,aB (by omega)]) hj]at g3;exact OS As (λ_=>ae) j x y g2 g3
    have QL:(List.replicate n.toNat zc).flatten.all lQ=Z:=by
     rw[bm];intro w hw;obtain⟨q,hq⟩:=OE hw;have hlt:q<n.toNat*es:=by have:=(cT.1 hq).1;rw[Ev qY]at this;simpa using this
     have qD:0<es:=by omega
     have hi:q/es<n.toNat:=a0y (by rw[wc];exact hlt);have hj:q%es<es:=mN _ qD;have NS:(uz (rQ c (J d)) ((zz P e zc).map dz)).length=es:=by rw[Hj];exact rk
     have hx:=q2.el (q/es) (uz (rQ c (J d)) ((zz P e zc).map dz)) (q%es) ((uz (rQ c (J d)) ((zz P e zc).map dz))[q%es]'(by omega)) w (by rw[KC,aB hi]) (cE _) (by
      rw[show q/es*es+q%es=q by rw[wc];exact OI q es];exact hq)
     have h1:=bm.1 zY _ (gB.2 rfl);exact RW hx (bm.1 h1 _ (e9 _))
    obtain⟨v,E2,a1,a2,a3,a4,a5⟩:=ZH (P:=P) r1.ok he ht rk rz hfl q2 QL (λ_=>rfl) (by rw[hlen];exact eJ) (by rw[hlen];exact fX)
    have r2:=r1.env a2 a3 λs hs=>a5 (s,[]) (λ_=>rfl) λq e=>by
     have:=gn Prod.fst e;simp only at this;omega
    have Np:=gC r2 hp a4 dn hk;rw[hlen,e1]at a1
    have hZ:d<c.nt/\K' (fr1.put d (.v v)) E2.H:=by
     simp only[bB]at Np;split at Np
     ·rename_i hlt;exact⟨hlt,Np⟩
     ·cases Np
    unfold fo;rw[ho,hd];simp only[ha,he,pA r hx,ht];refine .inr ⟨⟨hZ.1,k2,k4,k5,k6,rk,rz,As⟩,sv,v,E2.H,by simp[be,hw],a1,hZ.2⟩
   ·cases h
  ·cases h
 ·cases h
def zwP(r:aq c.nt pin E0 E pf fr){ts:Array TypeId}(ho:o.op=.call ⟨.builtin .clear,args,ts⟩)(h:Oj P c o.dst K pf args.toList ts)
(hk:∀pf' ai E',K pf'->aq c.nt pin E0 E' pf' ai->K' ai E'.H):c.hp≠[]/\fo P c.nt o K' fr E.H:=by
 unfold Oj at h;split at h
 ·rename_i q t ha;obtain⟨hd,h⟩:=h;unfold PP at h;split at h
  ·rename_i pf' s9;obtain⟨o4,hK⟩:=h;refine⟨o4,?_⟩;have G5:=r.f q;unfold zCk at s9;split at s9
   ·rename_i s lo hi hq;rw[hq]at G5;split at s9
    ·rename_i cB kk nn rows hz hs;split at s9
     ·rename_i hlt;simp only[aT]at s9;subst s9;obtain⟨e,g,es,b,z,he,ht,rk,rz,As,KQ⟩:=CN hz;simp only[b9]at KQ;obtain⟨rfl,rfl,KQ⟩:=KQ;have jy:=r.f s;rw[hs]at jy;obtain⟨v,v1,v2⟩:=gi jy (by simp);have iP:s<c.nt:=r.rt q s (by rw[hq];rfl);cases v2 with
      |sl0 o' bw=>simp at hlt;omega
      | @fk _ id off _ n cc k _ how hG hb bc hn hc hm hr hl hh=>
       obtain⟨⟨_,rfl⟩,hl⟩:=hl
       obtain⟨w,rfl⟩:∃w,z=[w]:=by
        cases z with
        |nil=>simp at rk
        |cons a l=>cases l with
         |nil=>exact⟨a,rfl⟩
         |cons b l=>simp at rk
       have hw:w=.int kk nn:=by
        have:=OS (P:=P) (E:=E) (b:=aa) (t:=e) (z:=[w]) As (λ_=>ae) 0 (.int kk nn) w (by simp only[uz,p8,l7,<-KQ];rfl) rfl;cases this;rfl
       subst hw
       have hfl:(List.replicate (hi-lo) [Value.int kk nn]).flatten=List.replicate (hi-lo) (Value.int kk nn):=by
        generalize hi-lo=m;induction m with
        |zero=>rfl
        |succ m ih=>simp[a2f,ih]
       have mY:fr q=.v (.slice (J ⟨id,lo,J 1⟩) (hi-lo) (cc-lo)):=by
        rcases G5 with⟨w1,_⟩|⟨Cy,a2z,bw,n',c',w1,_,_,w2⟩
        ·rcases w1 with⟨r0,a1,a2⟩|⟨c0,j',p',y',a1,_⟩
         ·rw[v1]at a1;cases a1;cases a2
         ·rw[v1]at a1;cases a1
        ·rcases w1 with⟨r0,a1,a2⟩|⟨c0,j',p',y',a1,_⟩
         ·rw[v1]at a1;cases a1;cases a2;simpa using w2
         ·rw[v1]at a1;cases a1
       have hne:List.replicate (hi-lo) (Value.int kk nn)≠[]:=λe0=>by
        have:=gn List.length e0;simp at this;omega
       obtain⟨cs,dP⟩:=F4 (cs:=k.cells) (n:=lo) hne (by simp;omega);obtain⟨b1,b2,b3,b4⟩:=EC hne dP
       let E1:Env:={E with H:=E.H.set id (J ⟨Z,cs⟩)}
       have jr:∀i,i≠id->E1.H.b i=E.H.b i:=λi bY=>by simp[E1,AH.set,bY]
       have Po:E1.H.b id=J ⟨Z,cs⟩:=by simp[E1,AH.set]
       have qw:GK E E1:=λi YC=>⟨YC,λk' hk'=>by
        have:i≠id:=λe=>hG (by rw[<-e];exact YC)
        exact⟨k',(jr i this).trans hk',rfl⟩⟩
       have qT:∀a:Nat×aA,a≠(s,[])->(∀r,(a.1,a.2++r)≠(s,[]))->du E E1 (J a) (J a):=λa _ ha i r g1 g2=>by
        refine⟨g1,g2,jr i λe=>?_⟩;subst e;rw[how]at g1;exact ha r (yB g1).symm
       have dH:fo P c.nt o K' fr E.H=(((hi-lo≠0/\hi-lo<=cc-lo/\(1=1)/\k.rw=Z/\[Value.int kk nn].length=1/\1≠0/\[Value.int kk nn].all ct=Z/\[Value.int kk nn].all lQ=Z)/\∃cs,fY k.cells lo (List.replicate (hi-lo) [Value.int kk nn]).flatten=J cs/\K' fr (E.H.set id (J ⟨Z,cs⟩)))):=by
        unfold fo;rw[ho,hd];simp only[ha,he,be,mY,ht,hb]
       rw[dH,hfl];refine⟨⟨by omega,by omega,rfl,bc,rfl,by decide,As,rfl⟩,cs,dP,?_⟩;refine hk _ fr E1 hK ?_
       refine r.qs iP qw (λt' ht' tY=>qT (t',[]) (λe=>tY (gn Prod.fst e)) λr e=>tY (gn Prod.fst e)) (λL hL=>⟨λi p g1 g2 g3=>⟨g1,g2⟩,λi p g1 g2 g3=>by omega⟩) (λ_ _=>rfl) (λ_=>.inl rfl)
        ⟨cy _,qw,λi _ hn=>⟨hn,jr i (λe=>by rw[e,how]at hn;cases hn),λh=>h⟩⟩ (λi k' hk'=>?_) (λi bY=>r.fresh i bY) (λ_ _ h1 h2=>.inl (by rw[h1]at h2;cases h2;rfl)) ?_ rfl r.pin
       ·by_cases e:i=id
        ·subst e;exact r.wf i k hb
        ·rw[jr i e]at hk';exact r.wf i k' hk'
       ·have hlr:(rows.take lo).length=lo:=by rw[nv];omega
        refine n0 v1 (.fk how hG Po rfl (by simp;omega) hc hm (λr' gX=>?_) ⟨⟨by decide,rfl⟩,by rw[b1];exact hl⟩ λi r' j x y g1 g2 g3=>?_)
        ·rcases jY.1 gX with h|h
         ·exact hr r' (Gy h)
         ·rcases jY.1 h with h|h
          ·rw[(nu.1 h).2];rfl
          ·exact hr r' (OC h)
        ·have old:rows[i]? =J r'->¬(lo<=i/\i<hi)->PR E1 (J (cO (s,[]) i j)) x y:=λh1 h2=>by
          have hj:j=0:=by
           have:=hr r' (eo h1);have:=(cT.1 g2).1;omega
          subst hj;rw[b3 _ (by simp;omega)]at g3;exact(hh i r' 0 x y h1 g2 g3).move qw (qT _ (by simp[cO]) λr e=>by simp[cO]at e)
         rcases dK i lo with aN|aN
         ·rw[fw (by omega),l6,aB aN]at g1;exact old g1 (by omega)
         ·rw[fT (by omega),hlr]at g1;rcases dK i hi with cF|cF
          ·rw[fw (by simp;omega),KC,aB (by omega)]at g1;cases g1;cases j with
           |succ j=>simp at g2
           |zero=>
            simp at g2;subst g2;have:=b4 (i-lo) (by simp;omega);rw[show lo+(i-lo)=0+i*1+0 by omega,g3,KC,aB (by omega)]at this;cases this;exact .int kk nn
          ·rw[fT (by simp;omega),jd]at g1;simp only[a2g]at g1;rw[show hi+(i-lo-(hi-lo))=i by omega]at g1;exact old g1 (by omega)
     ·cases s9
    ·cases s9
   ·cases s9
  ·cases h
 ·cases h
end
end Go.Pm
