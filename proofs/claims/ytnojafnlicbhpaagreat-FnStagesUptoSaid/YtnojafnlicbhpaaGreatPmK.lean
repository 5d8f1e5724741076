import Derived.Test.YtnojafnlicbhpaaGreatPmJ
open Bool renaming false→aa,true→Z
open Option renaming none→ae,some→J
set_option linter.defProp false
namespace Go.Pm
def Kz:=@List.getElem?_replicate
set_option linter.unusedSimpArgs false
open Go.Am
def CA(s:Nat):PF->Option (Nat×List PV)
 | .v (.bO xs)=>J (s,xs)
 |_=>ae
def BP(pf:ah):Operand->Option (Nat×List PV)
 | .tmp t=>match pf t with
  | .rf s []=>CA s (pf s)
  |y=>CA t y
 |_=>ae
def Jn(c:aY)(i:Nat)(d:Option Tmp)(K:ah->Prop)(pf:ah)(s:Nat)(xs:List PV):Option PV->Prop
 |some y=>dv y=aa/\if bL y=Z then dB c K d (.v y) ((pf.bU s (.v (.bO (xs.set i .au)))).kill s 1)else dB c K d (.v y) pf
 |none=>False
def EX(c:aY)(x:Operand)(i:Nat)(d:Option Tmp)(K:ah->Prop)(pf:ah):Prop:=
 match BP pf x with
 |some (s,xs)=>s<c.nt/\Jn c i d K pf s xs xs[i]?
 |none=>False
def ez(P:Program)(t:TypeId):Option (Nat×Nat×List PV):=(cR P t).bind λe=>(cA P e).bind λz=>if(decide (z.2.2.2.length=z.2.1)&&decide (z.2.1≠0)&&z.2.2.2.all cr)=Z then J (z.2.1,z.2.2.1,(zz P e z.2.2.2).map dz)else ae
def ezz(P:Program)(t:TypeId):Option (Nat×Nat×List Value):=(cR P t).bind λe=>(cA P e).map λz=>z.2
def NH(c:aY)(d:Option Tmp)(K:ah->Prop)(pf:ah)(z:Nat×Nat×List PV):Option Value->Option Value->Prop
 |some (.int .i64 n),J (.int .i64 m)=>(0<=n/\n<=m/\z.2.1*m<=140737488355328/\m<=4611686018427387904)/\
  dB c K d (.v (.sl Z z.1 (List.replicate n.toNat (uz (rL c d) z.2.2)))) pf
 |_,_=>False
def Df(P:Program)(c:aY)(t:TypeId)(l cc:Operand)(d:Option Tmp)(K:ah->Prop)(pf:ah):Prop:=
 match ez P t with
 |some z=>NH c d K pf z (cu pf l) (cu pf cc)
 |none=>False
def iE:PV->Option (List (List PV))
 | .sl _ _ rows=>J rows
 |_=>ae
def Ac(pf:ah)(t:Nat):PF->ah
 | .ls es rows=>(pf.bU t (.v (.sl Z es rows))).kill t 0
 |_=>pf
def BZ(P:Program)(c:aY)(t:TypeId)(x:Operand)(d:Option Tmp)(K:ah->Prop)(pf:ah):Prop:=
 match x with
 | .tmp t'=>match(cR P t).bind λ_=>(dM (Ac pf t' (pf t')) (Ac pf t' (pf t') t')).bind iE with
  |some rows=>rows.length<=j3->dB c K d (.v (.int .i64 rows.length)) (Ac pf t' (pf t'))
  |none=>False
 |_=>False
def RY(pf:ah):PF->Option (List (List PV))
 | .v (.sl _ _ rows)=>J rows
 | .rf s p=>match ce pf s p with
  |some (.sl _ _ rows)=>J rows
  |_=>ae
 |_=>ae
def P1(pf:ah):Operand->Option (List (List PV))
 | .tmp t=>RY pf (pf t)
 |_=>ae
def Cb(P:Program)(c:aY)(op:BinOp)(t:TypeId)(x:Operand)(d:Option Tmp)(K:ah->Prop)(pf:ah):Prop:=
 match d,x,J2 op,P1 pf x with
 |some d,.tmp _,J q,J rows=>(cR P t).isSome=Z/\∀b,(rows≠[]->b= !q)->dB c K (J d) (.v (.bool b)) pf
 |_,_,_,_=>False
def oO(pf:ah):Option Operand->Option (Option Nat)
 |none=>J ae
 |some x=>(cu pf x).bind λ
  | .int _ n=>if 0<=n then J (J n.toNat)else ae
  |_=>ae
def tV(eE l:Nat)(h:Option Nat)(y:Nat->Nat->PF):PV->Option PF
 | .sl Z es rows=>if es=eE/\l<=h.getD rows.length/\h.getD rows.length<=rows.length then J (y l (h.getD rows.length))else ae
 | .sl aa es rows=>if es=eE/\l<=h.getD rows.length/\h.getD rows.length<=rows.length then J (.v (.sl aa es ((rows.take (h.getD rows.length)).drop l)))else ae
 |_=>ae
def Hk(eE l:Nat)(h:Option Nat)(s:Nat)(p:aA)(lo hi:Nat):PV->Option PF
 | .sl Z es rows=>if(es=eE/\lo<=hi/\hi<=rows.length)/\l<=h.getD (hi-lo)/\h.getD (hi-lo)<=hi-lo then J (.rv s p (lo+l) (lo+h.getD (hi-lo)))else ae
 | .sl aa es rows=>if(es=eE/\lo<=hi/\hi<=rows.length)/\l<=h.getD (hi-lo)/\h.getD (hi-lo)<=hi-lo then J (.v (.sl aa es ((rows.take (lo+h.getD (hi-lo))).drop (lo+l))))else ae
 |_=>ae
def nc(eE l:Nat)(h:Option Nat)(pf:ah)(t:Nat):PF->Option PF
 | .v x=>tV eE l h (λa b=>.rv t [] a b) x
 | .rf s p=>(ce pf s p).bind (tV eE l h λa b=>.rv s p a b)
 | .rv s p lo hi=>(ce pf s p).bind (Hk eE l h s p lo hi)
 |_=>ae
def EU(c:aY)(es:Nat)(t:Nat)(d:Option Tmp)(K:ah->Prop)(pf:ah)(l h m:Option (Option Nat)):Prop:=
 match l,h,m with
 |some l,J h,J ae=>match nc es (l.getD 0) h pf t (pf t)with
  |some y=>dB c K d y pf
  |none=>False
 |some l,J (J h),J (J m)=>match(dM pf (pf t)).bind iE with
  |some rows=>(l.getD 0=h/\h=m/\m<=rows.length)/\(∃y,nc es (l.getD 0) (J h) pf t (pf t)=J y)/\dB c K d (.v (.sl Z es [])) pf
  |none=>False
 |_,_,_=>False
def FW(P:Program)(c:aY)(ty:TypeId)(x:Operand)(l h m:Option Operand)(d:Option Tmp)(K:ah->Prop)(pf:ah):Prop:=
 match x,lX P ty with
 | .tmp t,J es=>EU c es t d K pf (oO pf l) (oO pf h) (oO pf m)
 |_,_=>False
def MZ(c:aY)(d:Option Tmp)(K:ah->Prop)(pf:ah)(x y:Operand):Option Value->Prop
 |some (.bool Z)=>match(cu pf x).bind lG with
  |some v=>dB c K d (.v v) pf
  |none=>False
 |some (.bool aa)=>match(cu pf y).bind lG with
  |some v=>dB c K d (.v v) pf
  |none=>False
 |_=>False
def Gn(c:aY)(b x y:Operand)(d:Option Tmp)(K:ah->Prop)(pf:ah):Prop:=MZ c d K pf x y (cu pf b)
section
variable {nt:Nat}{pin:List (Nat×Value)}{E0 E E':Env}{pf:ah}{fr ai:FR}{c:aY}{P:Program}
variable{K:ah->Prop}{K':FR->AH->Prop}{o:Oper}{t:TypeId}{x:Operand}
def zyt(r:aq nt pin E0 E pf fr){s:Nat}{xs:List PV}(h:BP pf x=J (s,xs)):∃v,pf s=.v (.bO xs)/\fr s=.v v/\PR E (J (s,[])) (.bO xs) v/\∀H,bh fr H x=J (v,fr,H):=by
 have key:∀{s0:Nat}{y:PF},CA s0 y=J (s,xs)->s0=s/\y=.v (.bO xs):=by
  intro s0 y h;unfold CA at h;split at h
  ·cases h;exact⟨rfl,rfl⟩
  ·cases h
 cases x with
 |tmp t=>
  simp only[BP]at h;split at h
  ·rename_i s0 aD;obtain⟨rfl,hs⟩:=key h;have hf:=r.f t;rw[aD]at hf;obtain⟨v,h1,h2⟩:=hf;have hv:=Fg h2;have hg:=r.f s0;rw[hs]at hg;obtain⟨v',g1,g2⟩:=ga hg (by simp);rw[hv]at g1;cases g1;exact⟨v,hs,hv,g2,λH=>by simp[bh,h1]⟩
  ·obtain⟨rfl,hs⟩:=key h;have hg:=r.f t;rw[hs]at hg;obtain⟨v',g1,g2⟩:=ga hg (by simp);exact⟨v',hs,g1,g2,λH=>by simp[bh,g1]⟩
 |_=>simp[BP]at h
def zqX(r:aq c.nt pin E0 E pf fr)(hp:er c pin){i:Nat}(ho:o.op=.extract x i)(h:EX c x i o.dst K pf)
(hk:∀pf' ai E',K pf'->aq c.nt pin E0 E' pf' ai->K' ai E'.H):aM P c.nt o K' fr E.H:=by
 obtain⟨d,op,ty,ps,af,g⟩:=o;simp only at ho h;subst ho;unfold EX at h;split at h
 ·rename_i s xs qg;obtain⟨hs,h⟩:=h;unfold Jn at h;split at h
  ·rename_i y hy;obtain⟨hj,h⟩:=h;obtain⟨v,fI,jC,eV,W5⟩:=zyt r qg;cases eV with
   | @bO _ _ ys hl h0 hh=>
   have hi:i<ys.toList.length:=by have:=(cT.1 hy).1;omega
   have D7:=cE hi;have Wz:=hh i y _ hy D7;refine M7 (P:=P) (op:=.extract x i) rfl (W5 _) (w:=ys.toList[i]) (by simp only[eG];exact D7) ?_;split at h
   ·
    have fm:∀t:Nat,t≠s->∀q:aA,fa (s,[(0,i)]) (c.nt,[(0,0)]) (t,q)=ae:=λt ht q=>kF ht
    have r1:aq c.nt pin E0 (E.rl (fa (s,[(0,i)]) (c.nt,[(0,0)]))) ((pf.bU s (.v (.bO (xs.set i .au)))).kill s 1) fr:=by
     refine r.qV hs dO (λt ht te=>iR λq=>fm t te _) (λL hL=>⟨λid q g1 g2 g3=>?_,λid q g1 g2 g3=>rfl⟩) (λ_ _=>rfl) (λ_=>.inl rfl) nD r.ok.rl.wf r.ok.rl.fresh (λ_ _ h1 h2=>.inl (by rw[h1]at h2;cases h2;rfl)) ?_ rfl r.pin
     ·have:q=[]:=mK (by omega);subst this;exact⟨by simp[Env.rl,g1,fa],g2⟩
     ·refine oS jC (.bO (by simpa using hl) (by intro e;exact h0 (by simpa using e)) λj x y g1 g2=>?_);rw[C6]at g1;by_cases e:i=j
      ·subst e;rw[aB rfl]at g1;split at g1
       ·cases g1;exact .au y
       ·cases g1
      ·rw[az e]at g1;refine(hh j x y g1 g2).move dO (iR λq=>?_);simp[fa,cO,Lo.ch,e]
    exact gP r1 hp (Wz.move dO (lq λq=>by simpa[cO]using zgr (s,[(0,i)]) (c.nt,[(0,0)]) q)) h hk
   ·rename_i ho;exact gP r hp ((Wz.free (by simpa using ho)).up) h hk
  ·cases h
 ·cases h
def KJ{es:Nat}:∀{dh:List (List Value)}(_:∀e,e∈dh->e.length=es) {i j:Nat}{e:List Value},dh[i]? =J e->j<es->dh.flatten[i*es+j]? =e[j]? :=by
 intro dh;induction dh with
 |nil=>intro _ i j e h;simp at h
 |cons a l ih=>
  intro hl i j e h hj;have ha:=hl a (p9 ..);rw[Gt];cases i with
  |zero=>
   simp at h;subst h;rw[Nat.zero_mul,gk,fw (by omega)]
  |succ i=>
   rw[fT (by rw[ha,jZ];omega),ha];have:=ih (λe he=>hl e (nU _ he)) (i:=i) (by simpa using h) hj;rw[<-this];congr 1;rw[jZ];omega
def EH{es:Nat}:∀{dh:List (List Value)}(_:∀e,e∈dh->e.length=es),dh.flatten.length=dh.length*es:=by
 intro dh;induction dh with
 |nil=>intro _;simp
 |cons a l ih=>
  intro h;rw[Gt,bP,h a (p9 ..),ih (λe he=>h e (nU _ he)),dX,jZ];omega
def Cn{x:Nat×Nat×List PV}(h:ez P t=J x):∃e g es b z,cR P t=J e/\cA P e=J (g,es,b,z)/\z.length=es/\es≠0/\z.all cr=Z/\x=(es,b,(zz P e z).map dz):=by
 simp only[ez,bR]at h;obtain⟨e,he,⟨g,es,b,z⟩,hz,h⟩:=h;split at h
 ·rename_i hc;simp only[bI,eC]at hc;simp only[aT]at h;exact⟨e,g,es,b,z,he,hz,hc.1.1,hc.1.2,hc.2,h.symm⟩
 ·cases h
def zuA(r:aq c.nt pin E0 E pf fr)(hp:er c pin){l cc:Operand}(ho:o.op=.makeSlice t l cc)(h:Df P c t l cc o.dst K pf)
(hk:∀pf' ai E',K pf'->aq c.nt pin E0 E' pf' ai->K' ai E'.H):aM P c.nt o K' fr E.H:=by
 unfold Df at h;split at h
 ·rename_i z hz;obtain⟨e,g,es,b,zc,he,ht,h5,h6,h7,rfl⟩:=Cn hz;unfold NH at h;split at h
  ·rename_i n m hn hm;obtain⟨⟨h1,h2,h3,h4⟩,h8⟩:=h;simp only at h3 h8;unfold aM;rw[ho];simp only[he,pV r hn,pV r hm,ht];rw[aB ⟨h1,h2,h3,h4,h5,h6,h7⟩];have ok:=r.ok;have qX:∀e,e∈List.replicate m.toNat zc->e.length=es:=λe he=>by rw[(nr.1 he).2];exact h5
   have eV:PR (E.push ⟨Z,(List.replicate m.toNat zc).flatten⟩ (c.nt,[(0,0)]) λ_=>ae) (J (c.nt,[(0,0)])) (.sl Z es (List.replicate n.toNat (uz (rL c o.dst) ((zz P e zc).map dz)))) (.slice (J ⟨E.H.n,0,J es⟩) n.toNat m.toNat):=by
    refine .fk zhw ok.xN yl rfl (by simp) (by omega) (by unfold j3;omega) (λrw hr=>by rw[(nr.1 hr).2,GQ];exact h5) ⟨⟨h6,rfl⟩,?_⟩ λi rw j x y g1 g2 g3=>?_
    ·rw[gk,EH qX];simp
    ·rw[gk]at g3;have hi:i<n.toNat:=by have:=(cT.1 g1).1;simpa using this
     have bc:=(nr.1 (eo g1)).2;subst bc;have hj:j<es:=by have:=(cT.1 g2).1;rw[GQ]at this;omega
     rw[KJ qX (e:=zc) (by rw[Kz,aB (by omega)]) hj]at g3;exact R0 h7 (λ_=>J (cO (c.nt,[(0,0)]) i j)) j x y g2 g3
   have:=gP (K':=K') (r.env ok.push ok.uL λs _=>ok.m8 λ_=>rfl) hp eV h8 hk;exact this
  ·cases h
 ·cases h
def Sq(r:aq nt pin E0 E pf fr){t:Nat}{rows:List (List PV)}(h:(dM pf (pf t)).bind iE=J rows):∃p cc,fr t=.v (.slice p rows.length cc)/\rows.length<=j3:=by
 obtain⟨x,hx,hl⟩:=bR.1 h
 have kR:∀{l:Lo}{o:Bool}{es:Nat}{rows:List (List PV)}{v:Value},PR E l (.sl o es rows) v->∃p cc,v=.slice p rows.length cc/\rows.length<=j3:=by
  intro l o es rows v h;generalize hx:PV.sl o es rows=x at h;cases h with
  |sl0 o es=>cases hx;exact⟨ae,0,rfl,Ky _⟩
  |jI hG hb hn hc hm hr hl h=>cases hx;exact⟨_,_,by rw[hn],by rw[hn];exact hm⟩
  |fk how hG hb bc hn hc hm hr hl h=>cases hx;exact⟨_,_,by rw[hn],by rw[hn];exact hm⟩
  |_=>cases hx
 have hf:=r.f t;cases x with
 |sl o es zD=>
  simp only[iE,aT]at hl;subst hl;cases aD:pf t with
  |v x=>
   rw[aD]at hx hf;simp only[dM,aT]at hx;subst hx;obtain⟨v,h1,h2⟩:=ga hf (by simp);obtain⟨p,cc,rfl,h3⟩:=kR h2;exact⟨p,cc,h1,h3⟩
  |rf s p=>
   rw[aD]at hx hf;simp only[dM]at hx;obtain⟨v,h1,h2⟩:=hf;obtain⟨v',w1,w2⟩:=r.at hx (by simp) (jc r h2 hx);have:=w1.same h2;subst this;obtain⟨p,cc,rfl,h3⟩:=kR w2;exact⟨p,cc,h1,h3⟩
  |rv s p lo hi=>
   rw[aD]at hx hf;obtain⟨y,hy,gv⟩:=bR.1 hx;unfold Fa at gv;split at gv
   ·rename_i o' bw rows2;split at gv
    ·rename_i hb;simp only[aT,PV.sl.injEq]at gv;obtain⟨rfl,rfl,rfl⟩:=gv;rcases hf with⟨h1,h2,rfl,rfl⟩|⟨id,off,bw,n,cc,h1,h2,h3,h4⟩
     ·exact⟨ae,0,by simpa using h2,by simp⟩
     ·obtain⟨v',w1,w2⟩:=r.at hy (by simp) (jc r h1 hy);have:=w1.same h1;subst this;obtain⟨p,cc',e1,e2⟩:=kR w2;cases e1;have:((rows2.take hi).drop lo).length=hi-lo:=by simp;omega
      rw[this];exact⟨_,_,h4,by omega⟩
    ·cases gv
   ·cases gv
  |ra s p i j n=>
   rw[aD]at hx;simp only[dM,bR]at hx;obtain⟨row,_,nj⟩:=hx;unfold wU at nj;split at nj<;>cases nj
  |_=>rw[aD]at hx;simp[dM]at hx
 |_=>simp[iE]at hl
def zyJ(r:aq nt pin E0 E pf fr){t:Nat}{rows:List (List PV)}(h:RY pf (pf t)=J rows):(fr t=.v (.slice ae 0 0)/\rows=[])\/∃a n cc,fr t=.v (.slice (J a) n cc):=by
 have kR:∀{l:Lo}{o:Bool}{es:Nat}{rows:List (List PV)}{v:Value},PR E l (.sl o es rows) v->(v=.slice ae 0 0/\rows=[])\/∃a n cc,v=.slice (J a) n cc:=by
  intro l o es rows v h;generalize hx:PV.sl o es rows=x at h;cases h with
  |sl0 o es=>cases hx;exact .inl ⟨rfl,rfl⟩
  |jI hG hb hn hc hm hr hl h=>cases hx;exact .inr ⟨_,_,_,rfl⟩
  |fk how hG hb bc hn hc hm hr hl h=>cases hx;exact .inr ⟨_,_,_,rfl⟩
  |_=>cases hx
 have hf:=r.f t;unfold RY at h;split at h
 ·rename_i o es zD aD;cases h;rw[aD]at hf;obtain⟨v,h1,h2⟩:=ga hf (by simp);rcases kR h2 with⟨rfl,h3⟩|⟨a,n,cc,rfl⟩
  ·exact .inl ⟨h1,h3⟩
  ·exact .inr ⟨a,n,cc,h1⟩
 ·rename_i s p aD;split at h
  ·rename_i o es zD hx;cases h;rw[aD]at hf;obtain⟨v,h1,h2⟩:=hf;obtain⟨v',w1,w2⟩:=r.at hx (by simp) (jc r h2 hx);have:=w1.same h2;subst this;rcases kR w2 with⟨rfl,h3⟩|⟨a,n,cc,rfl⟩
   ·exact .inl ⟨h1,h3⟩
   ·exact .inr ⟨a,n,cc,h1⟩
  ·cases h
 ·cases h
def zup(r:aq c.nt pin E0 E pf fr)(hp:er c pin){op:BinOp}{y:Operand}{u:TypeId}(ho:o.op=.binOp op t x y u)(hy:v6 y=Z)(h:Cb P c op t x o.dst K pf)
(hk:∀pf' ai E',K pf'->aq c.nt pin E0 E' pf' ai->K' ai E'.H):fj P c.nt o K' fr E.H:=by
 unfold Cb at h;split at h
 ·rename_i d t' q rows hd hq hr;obtain⟨h1,h2⟩:=h
  have SS:∀b,dB c K (J d) (.v (.bool b)) pf->d<c.nt/\K' (fr.put d (.v (.bool b))) E.H:=by
   intro b hb;have:=gP (E:=E) r hp (.bool b) hb hk;simpa[bB]using this
  have OQ:d<c.nt:=(SS (!q) (h2 (!q) λ_=>rfl)).1;unfold fj;rw[ho,hd];refine⟨⟨OQ,hy,h1⟩,?_⟩;simp only[hq];rcases zyJ r hr with⟨e1,e2⟩|⟨a,n,cc,e1⟩
  ·simp only[be,e1];exact λb=>(SS b (h2 b λhh=>absurd e2 hh)).2
  ·simp only[be,e1];exact(SS (!q) (h2 (!q) λ_=>rfl)).2
 ·cases h
def zwD(r:aq c.nt pin E0 E pf fr)(hp:er c pin){args:Array Operand}(ho:o.op=.call ⟨.builtin .len,args,#[t]⟩)(ha:args.toList=[x])(h:BZ P c t x o.dst K pf)
(hk:∀pf' ai E',K pf'->aq c.nt pin E0 E' pf' ai->K' ai E'.H):aM P c.nt o K' fr E.H:=by
 obtain⟨d,op,ty,ps,af,g⟩:=o;simp only at ho h;subst ho;unfold BZ at h;split at h
 ·rename_i t';split at h
  ·rename_i rows hr;obtain⟨e,he,hr⟩:=bR.1 hr
   have key:∃v0 fr1 E1,bh fr E.H (.tmp t')=J (v0,fr1,E1.H)/\fr1 t'=.v v0/\aq c.nt pin E0 E1 (Ac pf t' (pf t')) fr1:=by
    cases aD:pf t' with
    |ls es Acr=>
     have ht:t'<c.nt:=by
      rcases dK t' c.nt with h1|h1
      ·exact h1
      ·have:=r.hi t' h1;rw[aD]at this;cases this
     obtain⟨v,fr1,E1,m1,m2,m3,_,_⟩:=r.Ps ht aD;exact⟨v,fr1,E1,m1,m2,m3⟩
    |_=>
     have hJ:=hr;rw[aD]at hJ;simp only[Ac]at hJ;obtain⟨p,cc,h1,h2⟩:=Sq r hJ;exact⟨_,fr,E,by simp only[bh,h1],h1,by simpa[Ac]using r⟩
   obtain⟨v0,fr1,E1,m1,m2,r1⟩:=key;obtain⟨p,cc,h1,h2⟩:=Sq r1 hr;rw[m2]at h1;cases h1;have hK:=gP r1 hp (.int .i64 (rows.length:Int)) (h h2) hk;exact M7 (P:=P) (op:=.call ⟨.builtin .len,args,#[t]⟩) (x:=.tmp t') (by simp[gp,ha]) m1 (w:=.int .i64 rows.length) (by simp[eG,Am.iE,he]) hK
  ·cases h
 ·cases h
def zuM(r:aq c.nt pin E0 E pf fr)(hp:er c pin){b y:Operand}(ho:o.op=.pick b x y)(h:Gn c b x y o.dst K pf)
(hk:∀pf' ai E',K pf'->aq c.nt pin E0 E' pf' ai->K' ai E'.H):aM P c.nt o K' fr E.H:=by
 unfold Gn MZ at h;unfold aM;rw[ho];simp only;split at h
 ·rename_i hb;rw[pV r hb];split at h
  ·rename_i v hv;obtain⟨w,h1,h2⟩:=bR.1 hv;simp only[pV r h1];exact gP r hp (SP h2) h hk
  ·cases h
 ·rename_i hb;rw[pV r hb];split at h
  ·rename_i v hv;obtain⟨w,h1,h2⟩:=bR.1 hv;simp only[pV r h1];exact gP r hp (SP h2) h hk
  ·cases h
 ·cases h
end
end Go.Pm
