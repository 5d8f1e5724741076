import Derived.Test.YtnojafnlicbhpaaGreatPmM
open Bool renaming false→aa,true→Z
open Option renaming none→ae,some→J
set_option linter.defProp false
namespace Go.Pm
open Go.Am
def iz:=@List.length_nil
def rS:=@Nat.mul_le_mul
def Qk:=@List.drop_zero
def Ql:=@Nat.div_add_mod
def a1n:=@Nat.div_lt_of_lt_mul
def a5u:=@List.replicate_succ
def a5v:=@List.length_replicate
def Be(es:Nat):PV->Option (List (List PV))
 | .sl Z bA rows=>if bA=es then J rows else ae
 |_=>ae
def ry(rows:List (List PV)):Bool:=rows.all (·.all λx=> !bN x)
def og(rows:List (List PV)):Bool:=rows.all (·.all qT)
def q6(es:Nat):PV->Option (List (List PV))
 | .sl Z bA rows=>if bA=es/\ry rows=Z then J rows else ae
 | .sl aa bA rows=>if bA=es then J rows else ae
 |_=>ae
def rj(es:Nat)(pf:ah)(t:Nat):PF->Option (List (List PV)×ah)
 | .ls bA rows=>if bA=es then J (rows,(pf.bY t jP).kill t 0)else ae
 |y=>(dW pf y).bind λx=>(q6 es x).map λrows=>(rows,pf)
def qn(es:Nat)(pf:ah):Operand->Option (List (List PV)×ah)
 | .tmp t=>if t<0 then ae else rj es pf t (pf t)
 | .const (.slice ae 0 0)=>J ([],pf)
 |_=>ae
def N2(c:aY)(z:Nat×Nat×List PV)(d:Option Tmp)(K:ah->Prop)(rows:List (List PV)):Option (List (List PV)×ah)->Prop
 |some (rows2,b7)=>og rows2=Z/\((rows.length+rows2.length)*z.2.1<=140737488355328/\rows.length+rows2.length<=4611686018427387904)/\
  dI c K d (.v (.sl Z z.1 (rows++rows2))) b7
 |none=>False
def NJ(c:aY)(z:Nat×Nat×List PV)(x:Operand)(d:Option Tmp)(K:ah->Prop):Option (PV×ah)->Prop
 |some (b,aR)=>match Be z.1 b with
  |some rows=>N2 c z d K rows (qn z.1 aR x)
  |none=>False
 |none=>False
def GF(P:Program)(c:aY)(t:TypeId)(s x:Operand)(d:Option Tmp)(K:ah->Prop)(pf:ah):Prop:=
 match ez P t with
 |some z=>NJ c z x d K (eB z.1 pf s)
 |none=>False
def vrF:PF->Bool
 | .v _| .rf _ _=>Z
 |_=>aa
def SM(c:aY)(z:Nat×Nat×List PV)(d:Tmp)(n:Nat)(K:ah->Prop):Option (PV×ah)->Prop
 |some (b,aR)=>match Be z.1 b with
  |some rows=>(og [uz (r9 c (J d)) z.2.2]=Z/\(rows.length+n)*z.2.1<=140737488355328/\rows.length+n<=4611686018427387904)/\dI c K (J d) (.v (.sl Z z.1 (rows++List.replicate n (uz (r9 c (J d)) z.2.2)))) aR
  |none=>False
 |none=>False
def K7(P:Program)(c:aY)(t t':TypeId)(s x:Operand)(d:Option Tmp)(K:ah->Prop)(pf:ah):Prop:=
 match d,ez P t,cu pf x,s with
 |some d,J z,J (.int .i64 n),.tmp q=>(c.hp≠[]/\(j9 P t').isSome=Z/\vrF (pf q)=Z/\0<n/\(z.2.1:Int)*n<=140737488355328/\n<=4611686018427387904)/\SM c z d n.toNat K (eB z.1 pf (.tmp q))
 |_,_,_,_=>False
def XD(P:Program)(t:TypeId)(pf:ah):PF->Option ah
 | .rv s [] lo hi=>match ez P t,pf s with
  |some (1,_,[.int k n]),.v (.sl Z 1 rows)=>if lo<hi/\hi<=rows.length then J ((pf.bY s (.v (.sl Z 1 (rows.take lo++(List.replicate (hi-lo) [.int k n]++rows.drop hi))))).kill s 1)else ae
  |_,_=>ae
 |_=>ae
def Rs(c:aY)(K:ah->Prop):Option ah->Prop
 |some pf'=>c.hp≠[]/\K pf'
 |none=>False
def NG(P:Program)(c:aY)(d:Option Tmp)(K:ah->Prop)(pf:ah):List Operand->Array TypeId->Prop
 |[.tmp q],⟨[t]⟩=>d=ae/\Rs c K (XD P t pf (pf q))
 |_,_=>False
def zCI:List PV->Option Int
 |[.int .u8 n]=>J n
 |_=>ae
def wO:List (List PV)->Option (List Int)
 |[]=>J []
 |r::rs=>(zCI r).bind λn=>(wO rs).map (n:: ·)
def A1(P:Program)(s:TypeId)(pf:ah)(x:Operand):Option (PF×ah):=
 if uH P s=Z then(qn 1 pf x).bind λz=>(wO z.1).map λns=>(.v (.str (yd ns)),z.2)else ae
def JE:PF->Bool
 | .ls es _=>es==1
 |_=>aa
def LA(pf:ah):Operand->Bool
 | .tmp u=>JE (pf u)
 |_=>aa
def y7(P:Program)(c:aY)(s t:TypeId)(x:Operand)(d:Option Tmp)(K:ah->Prop)(pf:ah):Prop:=
 match d,A1 P s pf x with
 |some d,J (y,b7)=>eC P t=Z/\dI c K (J d) y b7
 |_,_=>False
section
variable {nt:Nat}{pin:List (Nat×Value)}{E0 E E':Env}{pf:ah}{fr ak:FR}{c:aY}{P:Program}
variable{K:ah->Prop}{K':FR->AH->Prop}{R:Nat×aC}{args:Array Operand}{es n:Nat}{f:Nat×aC->Option (Nat×aC)}{o:Oper}{rows2:List (List PV)}{t:TypeId}{x:Operand}
def zzq:∀{ts us:List Nat}{fr:FR}{H:AH},oO (ts++us) fr H=(oO ts fr H).bind λx=>oO us x.1 x.2:=by
 intro ts;induction ts with
 |nil=>intro us fr H;rfl
 |cons t ts ih=>
  intro us fr H;simp only[uJ,oO];split
  ·exact ih
  ·rfl
def ZN{hb:Bool}:∀{xs:List Operand}{E:Env}{pf pf':ah}{fr:FR}{ys:List PV},av nt pin E0 E pf fr->sy hb pf xs=J (ys,pf')->
 ∃vs ak E' ts,oO ts fr E.H=J (ak,E'.H)/\(hb=aa->ts=[])/\(∀t w,fr t=.v w->ak t=.v w)/\(∀dN,(∀t w,ak t=.v w->dN t=.v w)->∀H,cr dN H xs=J (vs,dN,H))/\GK E E'/\av nt pin E0 E' pf' ak/\vs.length=ys.length/\ys.length=xs.length/\∀(k:Nat) (y:PV) (v:Value),ys[k]? =J y->vs[k]? =J v->PR E' ae y v:=by
 intro xs;induction xs with
 |nil=>
  intro E pf pf' fr ys r h;simp only[sy,aT,cg]at h;obtain⟨rfl,rfl⟩:=h;exact⟨[],fr,E,[],rfl,λ_=>rfl,λ_ _ h=>h,λdN _ H=>rfl,GK.refl E,r,rfl,rfl,λk y v h=>by simp at h⟩
 |cons x xs ih=>
  intro E pf pf' fr ys r h;simp only[sy,bW,bP,cg]at h;obtain⟨⟨y,aR⟩,h1,⟨QN,b7⟩,h2,rfl,rfl⟩:=h;obtain⟨v,fr1,E1,ts1,l1,e1,s1,m1,g1,r1,p1⟩:=zwd r h1;obtain⟨vs,dN,E2,ts2,l2,e2,s2,m2,g2,r2,k2,k3,p2⟩:=ih r1 h2;refine⟨v::vs,dN,E2,ts1++ts2,by rw[zzq,l1];exact l2,λhh=>by rw[e1 hh,e2 hh];rfl,λt w hw=>s2 t w (s1 t w hw),λfr3 hh H=>?_,g1.trans g2,r2,by simp[k2],by simp[k3],λk z w hz hw=>?_⟩
  ·have a1:=m1 fr3 (λt w hw=>hh t w (s2 t w hw)) H;have a2:=m2 fr3 hh H;simp[cr,a1,a2]
  ·cases k with
   |zero=>simp at hz hw;subst hz;subst hw;exact p1.mono g2
   |succ k=>exact p2 k z w (by simpa using hz) (by simpa using hw)
def zuN(r:av c.nt pin E0 E pf fr)(hp:eG c pin){fn:Fn}{xs ys:Array Operand}(ho:o.op=.makeFunc fn xs ys)(h:GE c fn xs.toList ys.toList o.dst K pf)
(hk:∀pf' ak E',K pf'->av c.nt pin E0 E' pf' ak->K' ak E'.H):aP P c.nt o K' fr E.H\/(c.hp≠[]/\fC P c.nt o K' fr E.H):=by
 obtain⟨d,op,ty,pp,af,g⟩:=o;simp only at ho h;subst ho;unfold GE at h;split at h
 ·split at h
  ·rename_i y aR hy;obtain⟨⟨gg,s,zs⟩,h1,h2⟩:=bW.1 hy;simp only[KG,bP,cg]at h2;obtain⟨⟨us,b7⟩,hf,rfl,rfl⟩:=h2;unfold IX at h1;split at h1
   ·rename_i gg' s' zs' iP zS;split at h1
    ·rename_i row fW;cases h1;obtain⟨v,g1,_⟩:=gA (by have:=r.f s;rw[fW]at this;exact this) (by simp)
     have hs:s<c.nt:=by
      rcases dQ s c.nt with h1|h1
      ·exact h1
      ·have:=r.hi s h1;rw[fW]at this;cases this
     obtain⟨ws,fr1,E1,ts,ly,e1,s1,m1,g2,r1,l1,l2,p1⟩:=ZN r hf;have g3:=s1 s v g1;have hK:=jQ (K':=K') r1 hp (y:=.cl s gg us) rfl hs (fv:=.v (.func (.func gg) #[] (v::ws).toArray)) ⟨v,ws,rfl,.inl ⟨v,g3,rfl⟩,l1.symm,p1⟩ h hk;have eI:xs.size=0:=by have:=gF List.length iP;simpa using this
     have hA:dE P c.nt ⟨d,.makeFunc (.func gg) xs ys,ty,pp,af,g⟩ K' fr1 E1.H:=by
      have hm:cr fr1 E1.H (xs.toList++ys.toList)=J (v::ws,fr1,E1.H):=by
       rw[iP,zS];have:=m1 fr1 (λ_ _ h=>h) E1.H;simp[cr,bg,g3,this]
      simp only[dE,gG,hm,eY,eI];exact hK
     cases oG:c.hp.isEmpty with
     |true=>
      rw[e1 (by rw[oG];rfl)]at ly;simp only[oO,aT,cg]at ly;obtain⟨e2,e3⟩:=ly;rw[<-e2,<-e3]at hA;exact .inl hA
     |false=>
      have hne:c.hp≠[]:=λe=>by rw[e]at oG;cases oG
      exact .inr ⟨hne,ts,fr1,E1.H,ly,hA⟩
    ·cases h1
   ·cases h1
  ·cases h
 split at h
 ·rename_i vs aR hf;obtain⟨ws,fr1,E1,ts,ly,e1,s1,m1,g1,r1,l1,l2,p1⟩:=ZN r hf;have eI:xs.size=xs.toList.length:=by simp
  have hv:PR E1 ae (.func fn (vs.take xs.toList.length) (vs.drop xs.toList.length)) (.func fn (ws.take xs.size).toArray (ws.drop xs.size).toArray):=by
   rw[eI];refine .func fn (by simp[l1]) (by simp[l1]) (λi x y a b=>?_) λi x y a b=>?_
   ·have b:(ws.take xs.toList.length)[i]? =J y:=by simpa using b
    rw[mu]at a b;split at a
    ·rename_i hlt;rw[aD hlt]at b;exact p1 i x y a b
    ·cases a
   ·have b:(ws.drop xs.toList.length)[i]? =J y:=by simpa using b
    rw[jw]at a b;exact p1 _ x y a b
  have hK:=g8 r1 hp hv.up h hk
  have hA:dE P c.nt ⟨d,.makeFunc fn xs ys,ty,pp,af,g⟩ K' fr1 E1.H:=by
   simp only[dE,gG,m1 fr1 (λ_ _ h=>h),eY];exact hK
  cases oG:c.hp.isEmpty with
  |true=>
   rw[e1 (by rw[oG];rfl)]at ly;simp only[oO,aT,cg]at ly;obtain⟨e2,e3⟩:=ly;rw[<-e2,<-e3]at hA;exact .inl hA
  |false=>
   have hne:c.hp≠[]:=λe=>by rw[e]at oG;cases oG
   exact .inr ⟨hne,ts,fr1,E1.H,ly,hA⟩
 ·cases h
structure Fu (E:Env) (es:Nat) (rows:List (List PV)) (new:List Value) (T:Lo) (f:Nat×aC->Option (Nat×aC)) (n:Nat) (R:Nat×aC):Prop where
 len:new.length=rows.length*es
 rl:∀r,r∈rows->r.length=es
 el:∀(i:Nat) (r:List PV) (j:Nat) (x:PV) (y:Value),rows[i]? =J r->r[j]? =J x->new[i*es+j]? =J y->PR E (T.ch i j) x y
 mv:∀a,T=J a->∀i j r,f (a.1,a.2++(i,j)::r)=J (R.1,R.2++(n+i,j)::r)
def SX{cc:Nat}{rows:List (List PV)}{old new cells2:List Value}{T:Lo}{id2:Nat}
(h00:es≠0)(h0:∀(i:Nat) (r:List PV) (j:Nat) (x:PV) (y:Value),rows[i]? =J r->r[j]? =J x->old[i*es+j]? =J y->PR E (J (cS R i j)) x y)(hr:∀r,r∈rows->r.length=es)(hn:rows.length=n)
(hs:Fu E es rows2 new T f n R)(hg:GK E E')(dO:∀i j,dC E E' (J (cS R i j)) (J (cS R i j)))(qN:∀a b:Nat×aC,(∀r,f (a.1,a.2++r)=J (b.1,b.2++r))->dC E E' (J a) (J b))
(ho:E'.ow id2=J R)(hG:¬E'.G id2)(hb:E'.H.b id2=J ⟨Z,cells2⟩)(rC:n+rows2.length<=cc)(hl:cc*es<=cells2.length)(hm:n+rows2.length<=kK)
(c1:∀q,q<n*es->cells2[q]? =old[q]?)(c2:∀q,q<new.length->cells2[n*es+q]? =new[q]?):
 PR E' (J R) (.sl Z es (rows++rows2)) (.slice (J ⟨id2,0,J es⟩) (n+rows2.length) cc):=by
 refine .fK ho hG hb rfl (by simp[hn]) rC hm (λr h=>?_) ⟨⟨h00,rfl⟩,by rw[gE];exact hl⟩ λi r j x y g1 g2 g3=>?_
 ·rcases kj.1 h with h|h
  ·exact hr r h
  ·exact hs.rl r h
 ·rw[gE]at g3;by_cases hi:i<rows.length
  ·rw[fM hi]at g1;have fF:=hr r (eA g1);have hj:j<es:=by have:=(cY.1 g2).1;omega
   have hlt:i*es+j<n*es:=by
    have:(i+1)*es<=n*es:=gO _ (by omega);rw[km]at this;omega
   rw[c1 _ hlt]at g3;exact(h0 i r j x y g1 g2 g3).move hg (dO i j)
  ·rw[gj (by omega)]at g1;have fF:=hs.rl r (eA g1);have hj:j<es:=by have:=(cY.1 g2).1;omega
   have fP:i-rows.length<rows2.length:=(cY.1 g1).1
   have hlt:(i-rows.length)*es+j<new.length:=by
    rw[hs.len];have:(i-rows.length+1)*es<=rows2.length*es:=gO _ (by omega);rw[km]at this;omega
   have e:i*es+j=n*es+((i-rows.length)*es+j):=by
    rw[<-jc,<-oz];congr 2;omega
   rw[e,c2 _ hlt]at g3;have fg:=hs.el _ r j x y g1 g2 g3;cases T with
   |none=>exact fg.move hg True.intro
   |some a=>
    refine fg.move hg (qN (cS a (i-rows.length) j) (cS R i j) λq=>?_);have:=hs.mv a rfl (i-rows.length) j q;rw[show n+(i-rows.length)=i by omega]at this;simpa[cS]using this
def Z4(ok:ey E){g:Bool}{e:TypeId}{cG:Nat}{z:List Value}(he:cW P t=J e)(ht:cF P e=J (g,es,cG,z))(hz:z.length=es)(h0:es≠0)
{rows:List (List PV)}{sv:Value}{new:List Value}{T:Lo}(hx:PR E (J R) (.sl Z es rows) sv)
(hs:Fu E es rows2 new T f rows.length R)(AB:new.all l8=Z)(EY:∀r,f (R.1,R.2++r)=ae)
(eS:(rows.length+rows2.length)*cG<=140737488355328)(gv:rows.length+rows2.length<=4611686018427387904):
 ∃v E',s9 P t sv new rows2.length E.H=J (v,E'.H)/\ey E'/\gn E E'/\PR E' (J R) (.sl Z es (rows++rows2)) v/\
  (∀a:Nat×aC,(∀r,f (a.1,a.2++r)=ae)->(∀r,(a.1,a.2++r)≠R)->dC E E' (J a) (J a)):=by
 have zP:¬(es=0\/z.length≠es\/new.all l8=aa):=by
  rintro(h|h|h)
  ·exact h0 h
  ·exact h hz
  ·rw[AB]at h;cases h
 have S6:∀(a:Nat×aC) i j,(∀r,f (a.1,a.2++r)=ae)->∀r,f ((cS a i j).1,(cS a i j).2++r)=ae:=λa i j h r=>by rw[zo];exact h _
 by_cases hm:rows2.length=0
 ·
  have fD:rows2=[]:=m9 hm;subst fD;refine⟨sv,E,?_,ok,gn.refl E,by simpa using hx,λa _ _=>.refl _⟩;simp only[s9,he,ht,aB zP];cases hx with
  |sl0 _ _=>simp
  |fK how hG hb bc hn hc gY hr hl hh=>simp
 ·cases hx with
  |sl0 _ _=>
   simp only[iz,gE]at eS gv;refine⟨.slice (J ⟨E.H.n,0,J es⟩) rows2.length rows2.length,E.push ⟨Z,new⟩ R f,?_,ok.push,ok.wM,?_,λa h1 _=>ok.nL h1⟩
   ·simp only[s9,he,ht,aB zP,aB hm];rw[aD ⟨eS,gv⟩];rfl
   ·have:=SX (E:=E) (E':=E.push ⟨Z,new⟩ R f) (rows:=[]) (rows2:=rows2) (old:=[]) (new:=new) (cells2:=new) (R:=R) (T:=T) (f:=f) (id2:=E.H.n) (n:=0) (cc:=rows2.length) h0 (λi r j x y h=>by simp at h) (λr h=>by cases h) rfl hs ok.nw
     (λi j=>ok.nL (S6 R i j EY)) (λa b h=>ok.Sg h) zhD ok.xR xV (by omega) (by rw[hs.len];exact cB _) (by unfold kK;omega) (λq hq=>by omega) (λq hq=>by simp)
    simpa using this
  | @fK _ id off _ n c k _ how hG hb bc hn hc gY hr hl hh=>
   obtain⟨⟨BG,rfl⟩,hl⟩:=hl;subst hn;rw[gE]at hl;have hlen:rows.length*es<=k.cells.length:=gD (gO _ hc) hl;have hko:k=⟨Z,k.cells⟩:=by obtain⟨q,cs⟩:=k;simp only at bc;subst bc;rfl
   have hold:∀(i:Nat) (r:List PV) (j:Nat) (x:PV) (y:Value),rows[i]? =J r->r[j]? =J x->k.cells[i*es+j]? =J y->PR E (J (cS R i j)) x y:=
    λi r j x y a1 a2 a3=>hh i r j x y a1 a2 (by rw[gE];exact a3)
   have pG:new.length=rows2.length*es:=hs.len
   have hne:new≠[]:=by
    intro e;rw[e]at pG;have:1*1<=rows2.length*es:=rS (by omega) (by omega);simp at pG;omega
   have ZB:∀a:Nat×aC,(∀r,(a.1,a.2++r)≠R)->∀i r,E.ow i=J (a.1,a.2++r)->i≠id:=λa ha i r h e=>by
    subst e;rw[how]at h;exact ha r (zC h).symm
   have YG:∀i j,∀r,((cS R i j).1,(cS R i j).2++r)≠R:=λi j r e=>by
    have:=gF (λz=>z.2.length) e;simp[cS]at this
   by_cases nV:rows.length+rows2.length<=c
   ·
    have KQ:(rows.length+rows2.length)*es<=c*es:=gO _ nV;rw[oz]at KQ;obtain⟨cs,dX⟩:=Hu (cs:=k.cells) (n:=0+rows.length*es) hne (by omega);obtain⟨b1,b2,b3,b4⟩:=FT hne dX;rw[gE]at b2 b3 b4
    let E1:Env:=⟨E.H.set id (J ⟨Z,cs⟩),E.G,λi=>(E.ow i).map λx=>(f x).getD x⟩
    have jB:∀i,i≠id->E1.H.b i=E.H.b i:=λi hi=>by simp[E1,AH.set,hi]
    have hg:GK E E1:=λi hi=>⟨hi,λk0 o8=>⟨k0,(jB i λe=>hG (by rw[<-e];exact hi)).trans o8,rfl⟩⟩
    have VQ:ey E1:=⟨λi k0 o8=>by
     by_cases e:i=id
     ·subst e;exact ok.wf i k hb
     ·rw[jB i e]at o8;exact ok.wf i k0 o8,λi hi=>by
     obtain⟨g1,g2⟩:=ok.fresh i hi
     exact⟨by simp[E1,g1],g2⟩⟩
    have dO:∀a:Nat×aC,(∀r,f (a.1,a.2++r)=ae)->(∀r,(a.1,a.2++r)≠R)->dC E E1 (J a) (J a):=λa h1 h2 i r g1 g2=>
     ⟨by simp[E1,g1,h1],g2,jB i (ZB a h2 i r g1)⟩
    have qN:∀a b:Nat×aC,(∀r,f (a.1,a.2++r)=J (b.1,b.2++r))->dC E E1 (J a) (J b):=λa b h i r g1 g2=>
     ⟨by simp[E1,g1,h],g2,jB i λe=>by
       subst e;rw[how]at g1;have:=h r;rw[<-zC g1]at this;have h3:=EY [];rw[Gh]at h3
       rw[h3]at this;cases this⟩
    have hR1:E1.ow id=J R:=by
     have h3:=EY [];rw[Gh]at h3;simp[E1,how,h3]
    refine⟨.slice (J ⟨id,0,J es⟩) (rows.length+rows2.length) c,E1,?_,VQ,⟨cB _,hg,λi _ hi=>⟨by simp[E1,hi],jB i (λe=>by rw[e,how]at hi;cases hi),λh=>h⟩⟩,?_,dO⟩
    ·simp only[s9,he,ht,aB zP,aB hm,hb];rw[aD ⟨bc,trivial,by omega,eS,gv⟩,aD nV,dX]
    ·exact SX (cells2:=cs) BG hold hr rfl hs hg (λi j=>dO _ (S6 R i j EY) (YG i j)) qN hR1 hG (by simp[E1,AH.set]) nV (by rw[b1];exact hl) (by unfold kK;omega)
      (λq hq=>b3 q (by omega)) (λq hq=>b4 q hq)
   ·
    let cells2:=k.cells.take (rows.length*es)++new
    have a2Q:cells2.length=(rows.length+rows2.length)*es:=by simp[cells2,pG,oz];omega
    let E1:Env:=⟨(E.H.set id ae).push ⟨Z,cells2⟩,E.G,λi=>if i=E.H.n then J R else(E.ow i).map λx=>(f x).getD x⟩
    have a5X:id<E.H.n:=ok.wf id k hb
    have jB:∀i,i≠id->i<E.H.n->E1.H.b i=E.H.b i:=λi hi hlt=>by
     simp only[E1,AH.push,AH.set];have h9:i≠E.H.n:=td hlt;simp[h9,hi]
    have a3G:E1.H.b E.H.n=J ⟨Z,cells2⟩:=by simp[E1,AH.push,AH.set]
    have hg:GK E E1:=λi hi=>⟨hi,λk0 o8=>⟨k0,(jB i (λe=>hG (by rw[<-e];exact hi)) (ok.ZK hi)).trans o8,rfl⟩⟩
    have VQ:ey E1:=⟨λi k0 o8=>by
     show i<E.H.n+1;by_cases h9:i<E.H.n
     ·omega
     ·by_cases h8:i=E.H.n
      ·omega
      ·have h7:i≠id:=by omega
       simp[E1,AH.push,AH.set,h8,h7]at o8;have:=ok.wf i k0 o8;omega,λi hi=>by
     have hi:E.H.n+1<=i:=hi;obtain⟨g1,g2⟩:=ok.fresh i (by omega)
     exact⟨by simp only[E1];rw[aB (by omega),g1];rfl,g2⟩⟩
    have dO:∀a:Nat×aC,(∀r,f (a.1,a.2++r)=ae)->(∀r,(a.1,a.2++r)≠R)->dC E E1 (J a) (J a):=λa h1 h2 i r g1 g2=>
     ⟨by simp only[E1];rw[aB (td (ok.lt g1)),g1];simp[h1],g2,jB i (ZB a h2 i r g1) (ok.lt g1)⟩
    have qN:∀a b:Nat×aC,(∀r,f (a.1,a.2++r)=J (b.1,b.2++r))->dC E E1 (J a) (J b):=λa b h i r g1 g2=>
     ⟨by simp only[E1];rw[aB (td (ok.lt g1)),g1];simp[h],g2,jB i (λe=>by
       subst e;rw[how]at g1;have:=h r;rw[<-zC g1]at this;have h3:=EY [];rw[Gh]at h3
       rw[h3]at this;cases this) (ok.lt g1)⟩
    have nC:(k.cells.take (rows.length*es)).length=rows.length*es:=by rw[nO];omega
    refine⟨.slice (J ⟨E.H.n,0,J es⟩) (rows.length+rows2.length) (rows.length+rows2.length),E1,?_,VQ,
     ⟨Et _,hg,λi h1 hi=>⟨by simp only[E1];rw[aB (td h1),hi];rfl,jB i (λe=>by rw[e,how]at hi;cases hi) h1,λh=>h⟩⟩,?_,dO⟩
    ·simp only[s9,he,ht,aB zP,aB hm,hb];rw[aD ⟨bc,trivial,by omega,eS,gv⟩,aB nV,aD trivial]
    ·exact SX (cells2:=cells2) BG hold hr rfl hs hg (λi j=>dO _ (S6 R i j EY) (YG i j)) qN (by simp[E1]) (λh=>(ok.fresh _ (cB _)).2 h) a3G (cB _) (by rw[a2Q];exact cB _) (by unfold kK;omega)
      (λq hq=>by simp only[cells2];rw[fM (by omega),mu,aD hq]) (λq hq=>by simp only[cells2];rw[gj (by omega),nC];congr 1;omega)
def Ru :Fu E es [] [] ae f n R:=⟨by simp,λr h=>(by cases h),λi r j x y h=>(by simp at h),λa h=>(by cases h)⟩
def HA(r:av nt pin E0 E pf fr){b7:ah}(hR:R.1=nt){g:Bool}{e:TypeId}{cG:Nat}{z:List Value}(he:cW P t=J e)(ht:cF P e=J (g,es,cG,z))(h0:es≠0)
(h:qn es pf x=J (rows2,b7)):
 ∃new T f,iD P t fr E.H x=J (new,rows2.length)/\Fu E es rows2 new T f n R/\(∀r,f (R.1,R.2++r)=ae)/\
  (∀E',ey E'->gn E E'->(∀a:Nat×aC,(∀r,f (a.1,a.2++r)=ae)->a.1<nt->dC E E' (J a) (J a))->av nt pin E0 E' b7 fr):=by
 have MJ:∀{t':Nat}{v:Value}{y:PV},fr t'=.v v->(∃l,PR E l y v)->q6 es y=J rows2->
  ∃new,iD P t fr E.H (.tmp t')=J (new,rows2.length)/\Fu E es rows2 new ae (λ_=>ae) n R:=by
  intro t' v y hv fg hy;obtain⟨l,fg⟩:=fg;unfold q6 at hy;split at hy
  ·rename_i bA rows;split at hy
   ·rename_i hc;obtain⟨rfl,qP⟩:=hc;simp only[aT]at hy;subst hy;cases fg with
    |sl0 _ _=>exact⟨[],by simp[iD,he,ht,hv],Ru⟩
    | @fK l id off _ m cc k _ how hG hb bc hn hc gY hr hl hh=>
     obtain⟨⟨BG,rfl⟩,hl⟩:=hl;rw[gE]at hl;have hlen:m*bA<=k.cells.length:=gD (gO _ hc) hl;refine⟨k.cells.take (m*bA),?_,?_,hr,λi r j x y g1 g2 g3=>?_,λa h=>(by cases h)⟩
     ·simp only[iD,he,ht,hv];by_cases sk:m=0
      ·subst sk;rw[aD rfl];simp[hn]
      ·rw[aB sk,aB (by simp)];simp only[AH.load,hb,mA,aS,Qk,G2 hlen,hn]
     ·rw[nO,hn];omega
     ·have fF:=hr r (eA g1);have hj:j<bA:=by have:=(cY.1 g2).1;omega
      have hi:i<m:=by have:=(cY.1 g1).1;omega
      have hlt:i*bA+j<m*bA:=by
       have:(i+1)*bA<=m*bA:=gO _ (by omega);rw[km]at this;omega
      rw[mu,aD hlt]at g3;refine(hh i r j x y g1 g2 (by rw[gE];exact g3)).free ?_;have h1:=bm.1 qP r (eA g1);have h2:=bm.1 h1 x (eA g2);simpa using h2
   ·cases hy
  ·rename_i bA rows;split at hy
   ·rename_i hc;subst hc;simp only[aT]at hy;subst hy;cases fg with
    |sl0 _ _=>exact⟨[],by simp[iD,he,ht,hv],Ru⟩
    | @jZ _ id off _ m cc k _ hG hb hn hc gY hr hl hh=>
     obtain⟨BG,hl⟩:=hl;have hlen:m*bA<=(k.cells.drop off).length:=by simp;omega
     refine⟨(k.cells.drop off).take (m*bA),?_,?_,hr,λi r j x y g1 g2 g3=>?_,λa h=>(by cases h)⟩
     ·simp only[iD,he,ht,hv];by_cases sk:m=0
      ·subst sk;rw[aD rfl];simp[hn]
      ·rw[aB sk,aB (by simp)];simp only[AH.load,hb,mA,aS,G2 hlen,hn]
     ·rw[nO,hn];omega
     ·have fF:=hr r (eA g1);have hj:j<bA:=by have:=(cY.1 g2).1;omega
      have hi:i<m:=by have:=(cY.1 g1).1;omega
      have hlt:i*bA+j<m*bA:=by
       have:(i+1)*bA<=m*bA:=gO _ (by omega);rw[km]at this;omega
      rw[mu,aD hlt,jw]at g3;exact hh i r j x y g1 g2 (by rw[jc];exact g3)
   ·cases hy
  ·cases hy
 have sK:b7=pf->∀E',ey E'->gn E E'->(∀a:Nat×aC,(∀r,(λ_:Nat×aC=>(ae:Option (Nat×aC))) (a.1,a.2++r)=ae)->a.1<nt->dC E E' (J a) (J a))->av nt pin E0 E' b7 fr:=by
  intro e E' h1 h2 h3;subst e;exact r.env h1 h2 λs hs=>h3 (s,[]) (λ_=>rfl) hs
 cases x with
 |const k=>
  have hk:k=.slice ae 0 0:=by
   unfold qn at h;split at h
   ·rename_i xW;cases xW
   ·rename_i xW;cases xW;rfl
   ·cases h
  subst hk;simp only[qn,aT,cg]at h;obtain⟨rfl,rfl⟩:=h;exact⟨[],ae,λ_=>ae,by simp[iD,he,ht],Ru,λ_=>rfl,sK rfl⟩
 |tmp t'=>
  simp only[qn,B0,my]at h;have hf:=r.f t'
  have nC:t'<nt:=by
   rcases dQ t' nt with h1|h1
   ·exact h1
   ·rw[r.hi t' h1]at h;simp[rj,jP,dW,q6]at h
  cases aF:pf t' with
  |ls bA rows=>
   rw[aF]at h hf;simp only[rj]at h;split at h
   ·rename_i hes;subst hes;simp only[aT,cg]at h;obtain⟨rfl,rfl⟩:=h;obtain⟨cells,c1,c2,c3,c4,c5⟩:=hf
    let f:Nat×aC->Option (Nat×aC):=λx=>if x.1=t' then match x.2 with
     |(i,j)::r=>J (R.1,R.2++(n+i,j)::r)
     |[]=>ae else ae
    refine⟨cells,J (t',[]),f,by simp[iD,he,ht,c1],⟨c2,c4,λi r j x y g1 g2 g3=>by simpa[Lo.ch,cS]using c5 i r j x y g1 g2 g3,λa ha i j q=>?_⟩,λq=>?_,λE' h1 h2 h3=>?_⟩
    ·cases ha;simp[f]
    ·have:R.1≠t':=λe=>by rw[hR]at e;exact zB _ (e▸nC)
     simp[f,this]
    ·refine r.rK nC h2.g (λs hs dO=>h3 (s,[]) (λq=>by simp[f,dO]) hs) (λL hL=>absurd hL (B0 _)) (λ_ _=>rfl) (λh=>absurd h (zB _)) h2 h1.wf h1.fresh (λ_ _ h1 h2=>.inl (by rw[h1]at h2;cases h2;rfl)) yt rfl r.pin
   ·cases h
  |v x=>
   rw[aF]at h hf;simp only[rj,dW,aS,bP,cg]at h;obtain⟨rows,h1,rfl,rfl⟩:=h;obtain⟨v,h2,h3⟩:=gA hf (by rintro rfl;simp[q6]at h1);obtain⟨new,q1,q2⟩:=MJ h2 ⟨_,h3⟩ h1;exact⟨new,ae,_,q1,q2,λ_=>rfl,sK rfl⟩
  |rf s p=>
   rw[aF]at h hf;simp only[rj,dW,bW,bP,cg]at h;obtain⟨x,hx,rows,h1,rfl,rfl⟩:=h;obtain⟨v,h2,h3⟩:=hf;obtain⟨v',w1,w2⟩:=r.at hx (by rintro rfl;simp[q6]at h1) (jn r h3 hx);have:=w1.same h3;subst this;obtain⟨new,q1,q2⟩:=MJ h2 ⟨_,w2⟩ h1;exact⟨new,ae,_,q1,q2,λ_=>rfl,sK rfl⟩
  |rv s p lo hi=>
   rw[aF]at h hf;simp only[rj,dW,bW,bP,cg]at h;obtain⟨x,⟨y,hy,gM⟩,rows,h1,rfl,rfl⟩:=h;unfold Fe at gM;split at gM
   ·rename_i o bA a44;split at gM
    ·rename_i hb;simp only[aT]at gM;subst gM;rcases hf with⟨h2,h3,rfl,rfl⟩|⟨id,off,es2,m,cc,h2,h3,h4,h5⟩
     ·obtain⟨new,q1,q2⟩:=MJ h3 ⟨ae,by simpa using PR.sl0 (E:=E) (l:=ae) o bA⟩ h1;exact⟨new,ae,_,q1,q2,λ_=>rfl,sK rfl⟩
     ·obtain⟨v',w1,w2⟩:=r.at hy (by simp) (jn r h2 hy);have:=w1.same h2;subst this;have ee:=AW w2;subst ee;cases o with
      |false=>
       obtain⟨_,_,_,e3⟩:=w2.cut h3 h4;obtain⟨new,q1,q2⟩:=MJ h5 ⟨_,e3⟩ h1;exact⟨new,ae,_,q1,q2,λ_=>rfl,sK rfl⟩
      |true=>
       simp only[q6]at h1;split at h1
       ·rename_i hc;obtain⟨rfl,qP⟩:=hc;simp only[aT]at h1;subst h1;cases w2 with
        | @fK l id off _ m cc k _ how hG hY bc hn hc gY hr hl hh=>
         obtain⟨⟨BG,rfl⟩,hl⟩:=hl;rw[gE]at hl h5;have hhi:hi*bA<=k.cells.length:=gD (gO _ (by omega)) hl;have a5P:lo*bA+(hi-lo)*bA=hi*bA:=by rw[<-oz];congr 1;omega
         have hlen:(hi-lo)*bA<=(k.cells.drop (lo*bA)).length:=by simp;omega
         have fF:((a44.take hi).drop lo).length=hi-lo:=by simp;omega
         refine⟨(k.cells.drop (lo*bA)).take ((hi-lo)*bA),ae,λ_=>ae,?_,⟨?_,λr im=>hr r (HK (Qg im)),λi r j x y g1 g2 g3=>?_,λa h=>(by cases h)⟩,λ_=>rfl,sK rfl⟩
         ·simp only[iD,he,ht,h5];by_cases sk:hi-lo=0
          ·rw[aD sk,sk];simp[fF,sk]
          ·rw[aB sk,aB (by simp)];simp only[AH.load,hY,mA,aS,G2 hlen,fF]
         ·rw[nO,fF];omega
         ·have g1':=g1;rw[jw,mu]at g1;split at g1
          ·rename_i a6g;have fF:=hr r (eA g1);have hj:j<bA:=by have:=(cY.1 g2).1;omega
           have hlt:i*bA+j<(hi-lo)*bA:=by
            have:(i+1)*bA<=(hi-lo)*bA:=gO _ (by omega);rw[km]at this;omega
           rw[mu,aD hlt,jw]at g3;refine(hh (lo+i) r j x y g1 g2 (by rw[gE,<-g3];congr 1;rw[oz];omega)).free ?_;have h1:=bm.1 qP r (eA g1');have h2:=bm.1 h1 x (eA g2);simpa using h2
          ·cases g1
       ·cases h1
    ·cases gM
   ·cases gM
  |ra s p i j m=>
   rw[aF]at h;simp only[rj,dW,bW,bP,cg]at h;obtain⟨x,⟨y,_,ny⟩,rows,h1,_⟩:=h;unfold zk at ny;split at ny
   ·cases ny;simp[q6]at h1
   ·cases ny
  |_=>rw[aF]at h;simp[rj,dW]at h
 |func _=>simp[qn]at h
 |global _=>simp[qn]at h
def zvY:∀{rows:List (List PV)}{ns:List Int},wO rows=J ns->ns.length=rows.length/\∀(i:Nat) (n:Int),ns[i]? =J n->rows[i]? =J [.int .u8 n]:=by
 intro rows;induction rows with
 |nil=>intro ns h;simp only[wO,aT]at h;subst h;exact⟨rfl,λi n h=>by simp at h⟩
 |cons r rs ih=>
  intro ns h;simp only[wO,bW,bP]at h;obtain⟨n,h1,ns',h2,rfl⟩:=h;obtain⟨i1,i2⟩:=ih h2
  have hr:r=[.int .u8 n]:=by
   unfold zCI at h1;split at h1
   ·cases h1;rfl
   ·cases h1
  refine⟨by simp[i1],λi k hk=>?_⟩;cases i with
  |zero=>simp at hk;subst hk;simp[hr]
  |succ i=>simpa using i2 i k (by simpa using hk)
def Y9(r:av c.nt pin E0 E pf fr)(hp:eG c pin){s:TypeId}(ho:o.op=.convert s t x)(h:y7 P c s t x o.dst K pf)
(hk:∀pf' ak E',K pf'->av c.nt pin E0 E' pf' ak->K' ak E'.H):fC P c.nt o K' fr E.H:=by
 unfold y7 at h;split at h
 ·rename_i d y b7 hd hb;obtain⟨dO,h⟩:=h;unfold A1 at hb;split at hb
  ·rename_i nJ;simp only[bW,bP,cg]at hb;obtain⟨⟨rows,pf3⟩,h1,ns,h2,rfl,rfl⟩:=hb
   obtain⟨e,he,ht⟩:∃e,cW P s=J e/\∃g b z,cF P e=J (g,1,b,z):=by
    unfold uH at nJ;split at nJ
    ·rename_i e he;split at nJ
     ·rename_i ht;exact⟨e,he,_,_,_,ht⟩
     ·cases nJ
    ·cases nJ
   obtain⟨g,b,z,ht⟩:=ht;obtain⟨new,T,f,q1,q2,_,q4⟩:=HA (n:=0) (R:=(c.nt,[])) r rfl he ht (by omega) h1;have r2:=q4 E r.ok (gn.refl E) λa _ _=>λid q h1 h2=>⟨h1,h2,rfl⟩
   obtain⟨n1,n2⟩:=zvY h2
   have zP:new=ns.map (Value.int .u8):=by
    have hl:=q2.len;dsimp only at hl n1;rw[L0]at hl;apply List.ext_getElem?;intro i;by_cases hi:i<new.length
    ·have fP:i<ns.length:=by omega
     have a1:ns[i]? =J ns[i]:=cJ fP;have a2:=n2 i _ a1;have a3:new[i*1+0]? =J (new[i]'hi):=by simp[cJ hi]
     have a4:=q2.el i _ 0 _ _ a2 rfl a3;rw[cJ hi,Ew,a1];generalize new[i]'hi=w at a4⊢;generalize T.ch i 0=lo at a4;cases a4;rfl
    ·rw[BX (by omega),BX (by simp;omega)]
   have xg:d<c.nt:=by
    have:=h.1;simp only[ic,bK,eO]at this;exact this.1.1
   have hK:=g8 r2 hp (.str (yd ns)) h hk;unfold fC;rw[ho,hd];simp only[q1];refine⟨⟨xg,nJ,dO⟩,ns,zP,?_⟩;simpa[bC,xg]using hK
  ·cases hb
 ·cases h
def zBk(r:av c.nt pin E0 E pf fr){s:TypeId}(ho:o.op=.convert s t x)(hl:LA pf x=Z)(h:fC P c.nt o K' fr E.H):aP P c.nt o K' fr E.H:=by
 cases x with
 |tmp u=>
  obtain⟨rows,aF⟩:∃rows,pf u=.ls 1 rows:=by
   have hl:JE (pf u)=Z:=hl;cases e:pf u with
   |ls es rows=>
    rw[e]at hl;have h1:es=1:=by simpa[JE]using hl
    exact⟨rows,by rw[h1]⟩
   |_=>rw[e]at hl;cases hl
  have hf:=r.f u;rw[aF]at hf;obtain⟨cells,h1,_⟩:=hf;cases hd:o.dst with
  |none=>simp only[fC,ho,hd]at h
  |some d=>
   simp only[fC,ho,hd]at h;obtain⟨⟨k1,k2,k3⟩,h⟩:=h;split at h
   ·rename_i cs n je;obtain⟨ns,rfl,hK⟩:=h;simp only[aP,ho];refine .inr ⟨⟨k2,k3,by rw[hd];rfl⟩,rows.length,ns,?_,by rw[hd];simpa[bC,k1]using hK⟩
    have hc:cells=ns.map (Value.int .u8):=by
     unfold iD at je;split at je
     ·cases je
     ·split at je
      ·cases je
      ·simp only[h1]at je;split at je
       ·cases je;rfl
       ·cases je
    simp only[GG,h1,hc,e9]
   ·cases h
 |_=>cases hl
def zwg(r:av c.nt pin E0 E pf fr)(hp:eG c pin){s:Operand}(ho:o.op=.call ⟨.builtin .append,args,#[t,t]⟩)(ha:args.toList=[s,x])(h:GF P c t s x o.dst K pf)
(hk:∀pf' ak E',K pf'->av c.nt pin E0 E' pf' ak->K' ak E'.H):aP P c.nt o K' fr E.H:=by
 unfold GF at h;split at h
 ·rename_i z hz;obtain⟨e,g,es,b,zc,he,ht,sn,sT,BE,rfl⟩:=D3 hz;unfold NJ at h;split at h
  ·rename_i y aR jD;split at h
   ·rename_i rows nl;obtain⟨sv,fr1,H1,E1,m1,e1,r1,f1⟩:=wb r (fl:=[]) (λk x v h=>by simp at h) jD;have hfl:PR E1 (J (c.nt,[(0,0)])) y sv:=f1 0 y sv rfl
    have hy:y=.sl Z es rows:=by
     unfold Be at nl;split at nl
     ·split at nl
      ·rename_i hh;simp only[aT]at nl;subst nl;simp only at hh;rw[hh]
      ·cases nl
     ·cases nl
    subst hy;unfold N2 at h;split at h
    ·rename_i rows2 b7 zM;obtain⟨AB,⟨eS,gv⟩,dv⟩:=h;simp only at eS gv dv zM;obtain⟨new,T,f,q1,q2,q3,q4⟩:=HA (P:=P) r1 (R:=(c.nt,[(0,0)])) (n:=rows.length) rfl he ht sT zM
     have TV:new.all l8=Z:=by
      rw[bm];intro w hw;obtain⟨q,hq⟩:=Qi hw;have hlt:q<rows2.length*es:=by have:=(cY.1 hq).1;rw[q2.len]at this;exact this
      have rn:0<es:=by omega
      have hi:q/es<rows2.length:=a1n (by rw[xJ];exact hlt);have hj:q%es<es:=nb _ rn;have hr:=q2.rl _ (fm hi)
      have hx:=q2.el (q/es) rows2[q/es] (q%es) (rows2[q/es][q%es]'(by omega)) w (cJ hi) (cJ _) (by
       rw[show q/es*es+q%es=q by rw[xJ];exact Ql q es];exact hq)
      have h1:=bm.1 AB _ (fm hi);exact Ug hx (bm.1 h1 _ (fm _))
     obtain⟨v,E2,a1,a2,a3,a4,a5⟩:=Z4 (P:=P) r1.ok he ht sn sT hfl q2 TV q3 eS gv
     have r2:=q4 E2 a2 a3 λa h1 h2=>a5 a h1 λq e=>by
      have:=gF Prod.fst e;simp only at this;omega
     have:=g8 r2 hp a4 dv hk;unfold aP;rw[ho];simp only[ha,m1];rw[aD trivial];rw[<-e1];simp only[q1,a1];exact this
    ·cases h
   ·cases h
  ·cases h
 ·cases h
def zCX(r:av nt pin E0 E pf fr){z q:Nat}{y:PV}{aR:ah}(h:eB z pf (.tmp q)=J (y,aR))(hv:vrF (pf q)=Z):∃v,fr q=.v v:=by
 have hf:=r.f q;simp only[eB]at h;cases aF:pf q with
 |v x=>
  rw[aF]at h hf;simp only[mn,Ag]at h;split at h
  ·cases h
  ·rename_i hj;obtain⟨v,h1,_⟩:=gA hf (oT (by simpa using hj));exact⟨v,h1⟩
 |rf s p=>
  rw[aF]at hf;obtain⟨v,h1,_⟩:=hf;exact⟨v,h1⟩
 |_=>rw[aF]at hv;cases hv
def zuk(r:av c.nt pin E0 E pf fr)(hp:eG c pin){t':TypeId}{s:Operand}(ho:o.op=.call ⟨.builtin .append,args,#[t,t']⟩)(ha:args.toList=[s,x])(h:K7 P c t t' s x o.dst K pf)
(hk:∀pf' ak E',K pf'->av c.nt pin E0 E' pf' ak->K' ak E'.H):c.hp≠[]/\fC P c.nt o K' fr E.H:=by
 unfold K7 at h;split at h
 ·rename_i d z n q hd hz hx;obtain⟨e,g,es,b,zc,he,ht,sn,sT,BE,rfl⟩:=D3 hz;obtain⟨⟨k1,k2,k3,k4,k5,k6⟩,h⟩:=h;refine⟨k1,?_⟩;unfold SM at h;split at h
  ·rename_i y aR jD;split at h
   ·rename_i rows nl;obtain⟨⟨AB,eS,gv⟩,dv⟩:=h;obtain⟨w,hw⟩:=zCX r jD k3;obtain⟨sv,fr1,H1,E1,m1,e1,r1,f1⟩:=wb r (fl:=[]) (λk x v h=>by simp at h) jD
    have hm:sv=w/\fr1=fr/\H1=E.H:=by
     simp only[bg,hw,aT,cg]at m1;exact⟨m1.1.symm,m1.2.1.symm,m1.2.2.symm⟩
    obtain⟨rfl,rfl,rfl⟩:=hm;have hfl:PR E1 (J (c.nt,[(0,0)])) y sv:=f1 0 y sv rfl
    have hy:y=.sl Z es rows:=by
     unfold Be at nl;split at nl
     ·split at nl
      ·rename_i hh;simp only[aT]at nl;subst nl;simp only at hh;rw[hh]
      ·cases nl
     ·cases nl
    subst hy;simp only at AB eS gv dv;have hlen:(List.replicate n.toNat (uz (r9 c (J d)) ((zz P e zc).map dz))).length=n.toNat:=by simp
    have rN:∀l,l∈List.replicate n.toNat zc->l.length=es:=λl hl=>by rw[(nN.1 hl).2];exact sn
    have q2:Fu E1 es (List.replicate n.toNat (uz (r9 c (J d)) ((zz P e zc).map dz))) (List.replicate n.toNat zc).flatten ae (λ_=>ae) rows.length (c.nt,[(0,0)]):=by
     refine⟨by rw[EB rN];simp,λl hl=>by rw[(nN.1 hl).2,J7];exact sn,λi l j x y g1 g2 g3=>?_,λa h=>by cases h⟩;have hi:i<n.toNat:=by have:=(cY.1 g1).1;simpa using this
     have bc:=(nN.1 (eA g1)).2;subst bc;have hj:j<es:=by have:=(cY.1 g2).1;rw[J7]at this;omega
     rw[OV rN (e:=zc) (by rw[L4,aD (by omega)]) hj]at g3;exact Vq BE (λ_=>ae) j x y g2 g3
    have TV:(List.replicate n.toNat zc).flatten.all l8=Z:=by
     rw[bm];intro w hw;obtain⟨q,hq⟩:=Qi hw;have hlt:q<n.toNat*es:=by have:=(cY.1 hq).1;rw[EB rN]at this;simpa using this
     have rn:0<es:=by omega
     have hi:q/es<n.toNat:=a1n (by rw[xJ];exact hlt);have hj:q%es<es:=nb _ rn;have Pa:(uz (r9 c (J d)) ((zz P e zc).map dz)).length=es:=by rw[J7];exact sn
     have hx:=q2.el (q/es) (uz (r9 c (J d)) ((zz P e zc).map dz)) (q%es) ((uz (r9 c (J d)) ((zz P e zc).map dz))[q%es]'(by omega)) w (by rw[L4,aD hi]) (cJ _) (by
      rw[show q/es*es+q%es=q by rw[xJ];exact Ql q es];exact hq)
     have h1:=bm.1 AB _ (gP.2 rfl);exact Ug hx (bm.1 h1 _ (fm _))
    obtain⟨v,E2,a1,a2,a3,a4,a5⟩:=Z4 (P:=P) r1.ok he ht sn sT hfl q2 TV (λ_=>rfl) (by rw[hlen];exact eS) (by rw[hlen];exact gv)
    have r2:=r1.env a2 a3 λs hs=>a5 (s,[]) (λ_=>rfl) λq e=>by
     have:=gF Prod.fst e;simp only at this;omega
    have Oa:=g8 r2 hp a4 dv hk;rw[hlen,e1]at a1
    have iw:d<c.nt/\K' (fr1.put d (.v v)) E2.H:=by
     simp only[bC]at Oa;split at Oa
     ·rename_i hlt;exact⟨hlt,Oa⟩
     ·cases Oa
    unfold fC;rw[ho,hd];simp only[ha,he,qk r hx,ht];refine .inr ⟨⟨iw.1,k2,k4,k5,k6,sn,sT,BE⟩,sv,v,E2.H,by simp[be,hw],a1,iw.2⟩
   ·cases h
  ·cases h
 ·cases h
def zv1(r:av c.nt pin E0 E pf fr){ts:Array TypeId}(ho:o.op=.call ⟨.builtin .clear,args,ts⟩)(h:NG P c o.dst K pf args.toList ts)
(hk:∀pf' ak E',K pf'->av c.nt pin E0 E' pf' ak->K' ak E'.H):c.hp≠[]/\fC P c.nt o K' fr E.H:=by
 unfold NG at h;split at h
 ·rename_i q t ha;obtain⟨hd,h⟩:=h;unfold Rs at h;split at h
  ·rename_i pf' tN;obtain⟨oG,hK⟩:=h;refine⟨oG,?_⟩;have K5:=r.f q;unfold XD at tN;split at tN
   ·rename_i s lo hi hq;rw[hq]at K5;split at tN
    ·rename_i cG kk nn rows hz hs;split at tN
     ·rename_i hlt;simp only[aT]at tN;subst tN;obtain⟨e,g,es,b,z,he,ht,sn,sT,BE,Od⟩:=D3 hz;simp only[cg]at Od;obtain⟨rfl,rfl,Od⟩:=Od;have jL:=r.f s;rw[hs]at jL;obtain⟨v,v1,v2⟩:=gA jL (by simp);have jf:s<c.nt:=r.rt q s (by rw[hq];rfl);cases v2 with
      |sl0 o' bA=>simp at hlt;omega
      | @fK _ id off _ n cc k _ how hG hb bc hn hc hm hr hl hh=>
       obtain⟨⟨_,rfl⟩,hl⟩:=hl
       obtain⟨w,rfl⟩:∃w,z=[w]:=by
        cases z with
        |nil=>simp at sn
        |cons a l=>cases l with
         |nil=>exact⟨a,rfl⟩
         |cons b l=>simp at sn
       have hw:w=.int kk nn:=by
        have:=Vq (P:=P) (E:=E) (b:=aa) (t:=e) (z:=[w]) BE (λ_=>ae) 0 (.int kk nn) w (by simp only[uz,qH,my,<-Od];rfl) rfl;cases this;rfl
       subst hw
       have hfl:(List.replicate (hi-lo) [Value.int kk nn]).flatten=List.replicate (hi-lo) (Value.int kk nn):=by
        generalize hi-lo=m;induction m with
        |zero=>rfl
        |succ m ih=>simp[a5u,ih]
       have nz:fr q=.v (.slice (J ⟨id,lo,J 1⟩) (hi-lo) (cc-lo)):=by
        rcases K5 with⟨w1,_⟩|⟨Eh,a51,bA,n',c',w1,_,_,w2⟩
        ·rcases w1 with⟨r0,a1,a2⟩|⟨c0,j',p',y',a1,_⟩
         ·rw[v1]at a1;cases a1;cases a2
         ·rw[v1]at a1;cases a1
        ·rcases w1 with⟨r0,a1,a2⟩|⟨c0,j',p',y',a1,_⟩
         ·rw[v1]at a1;cases a1;cases a2;simpa using w2
         ·rw[v1]at a1;cases a1
       have hne:List.replicate (hi-lo) (Value.int kk nn)≠[]:=λe0=>by
        have:=gF List.length e0;simp at this;omega
       obtain⟨cs,dX⟩:=Hu (cs:=k.cells) (n:=lo) hne (by simp;omega);obtain⟨b1,b2,b3,b4⟩:=FT hne dX
       let E1:Env:={E with H:=E.H.set id (J ⟨Z,cs⟩)}
       have jB:∀i,i≠id->E1.H.b i=E.H.b i:=λi b9=>by simp[E1,AH.set,b9]
       have TC:E1.H.b id=J ⟨Z,cs⟩:=by simp[E1,AH.set]
       have Aa:GK E E1:=λi hGi=>⟨hGi,λk' hk'=>by
        have:i≠id:=λe=>hG (by rw[<-e];exact hGi)
        exact⟨k',(jB i this).trans hk',rfl⟩⟩
       have qN:∀a:Nat×aC,a≠(s,[])->(∀r,(a.1,a.2++r)≠(s,[]))->dC E E1 (J a) (J a):=λa _ ha i r g1 g2=>by
        refine⟨g1,g2,jB i λe=>?_⟩;subst e;rw[how]at g1;exact ha r (zC g1).symm
       have dO:fC P c.nt o K' fr E.H=(((hi-lo≠0/\hi-lo<=cc-lo/\(1=1)/\k.rw=Z/\[Value.int kk nn].length=1/\1≠0/\[Value.int kk nn].all cz=Z/\[Value.int kk nn].all l8=Z)/\∃cs,gq k.cells lo (List.replicate (hi-lo) [Value.int kk nn]).flatten=J cs/\K' fr (E.H.set id (J ⟨Z,cs⟩)))):=by
        unfold fC;rw[ho,hd];simp only[ha,he,be,nz,ht,hb]
       rw[dO,hfl];refine⟨⟨by omega,by omega,rfl,bc,rfl,by decide,BE,rfl⟩,cs,dX,?_⟩;refine hk _ fr E1 hK ?_
       refine r.rK jf Aa (λt' ht' tM=>qN (t',[]) (λe=>tM (gF Prod.fst e)) λr e=>tM (gF Prod.fst e)) (λL hL=>⟨λi p g1 g2 g3=>⟨g1,g2⟩,λi p g1 g2 g3=>by omega⟩) (λ_ _=>rfl) (λ_=>.inl rfl)
        ⟨cB _,Aa,λi _ hn=>⟨hn,jB i (λe=>by rw[e,how]at hn;cases hn),λh=>h⟩⟩ (λi k' hk'=>?_) (λi b9=>r.fresh i b9) (λ_ _ h1 h2=>.inl (by rw[h1]at h2;cases h2;rfl)) ?_ rfl r.pin
       ·by_cases e:i=id
        ·subst e;exact r.wf i k hb
        ·rw[jB i e]at hk';exact r.wf i k' hk'
       ·have hlr:(rows.take lo).length=lo:=by rw[nO];omega
        refine o9 v1 (.fK how hG TC rfl (by simp;omega) hc hm (λr' im=>?_) ⟨⟨by decide,rfl⟩,by rw[b1];exact hl⟩ λi r' j x y g1 g2 g3=>?_)
        ·rcases kj.1 im with h|h
         ·exact hr r' (HK h)
         ·rcases kj.1 h with h|h
          ·rw[(nN.1 h).2];rfl
          ·exact hr r' (Qg h)
        ·have old:rows[i]? =J r'->¬(lo<=i/\i<hi)->PR E1 (J (cS (s,[]) i j)) x y:=λh1 h2=>by
          have hj:j=0:=by
           have:=hr r' (eA h1);have:=(cY.1 g2).1;omega
          subst hj;rw[b3 _ (by simp;omega)]at g3;exact(hh i r' 0 x y h1 g2 g3).move Aa (qN _ (by simp[cS]) λr e=>by simp[cS]at e)
         rcases dQ i lo with Zb|Zb
         ·rw[fM (by omega),mu,aD Zb]at g1;exact old g1 (by omega)
         ·rw[gj (by omega),hlr]at g1;rcases dQ i hi with fP|fP
          ·rw[fM (by simp;omega),L4,aD (by omega)]at g1;cases g1;cases j with
           |succ j=>simp at g2
           |zero=>
            simp at g2;subst g2;have:=b4 (i-lo) (by simp;omega);rw[show lo+(i-lo)=0+i*1+0 by omega,g3,L4,aD (by omega)]at this;cases this;exact .int kk nn
          ·rw[gj (by simp;omega),jw]at g1;simp only[a5v]at g1;rw[show hi+(i-lo-(hi-lo))=i by omega]at g1;exact old g1 (by omega)
     ·cases tN
    ·cases tN
   ·cases tN
  ·cases h
 ·cases h
end
end Go.Pm
