import Derived.Test.YtnojafnlicbhpaaGreatPmJ
namespace Go.Pm
set_option linter.defProp false
open Bool renaming false→aa,true→Z
open Option renaming none→ae,some→J
def Kz:=@List.getElem?_replicate
set_option linter.unusedSimpArgs false
open Go.Am
def Cw(s:Nat):PF->Option (Nat×List PV)
 | .v (.bO xs)=>J (s,xs)
 |_=>ae
def CA(pf:ah):Operand->Option (Nat×List PV)
 | .tmp t=>match pf t with
  | .rf s []=>Cw s (pf s)
  |y=>Cw t y
 |_=>ae
def JD(c:aY)(i:Nat)(d:Option Tmp)(K:ah->Prop)(pf:ah)(s:Nat)(xs:List PV):Option PV->Prop
 |some y=>dr y=aa/\if bK y=Z then dF c K d (.v y) ((pf.bU s (.v (.bO (xs.set i .au)))).kill s 1)else dF c K d (.v y) pf
 |none=>False
def EF(c:aY)(x:Operand)(i:Nat)(d:Option Tmp)(K:ah->Prop)(pf:ah):Prop:=
 match CA pf x with
 |some (s,xs)=>s<c.nt/\JD c i d K pf s xs xs[i]?
 |none=>False
def ez(P:Program)(t:TypeId):Option (Nat×Nat×List PV):=(cS P t).bind λe=>(cA P e).bind λz=>if(decide (z.2.2.2.length=z.2.1)&&decide (z.2.1≠0)&&z.2.2.2.all cq)=Z then J (z.2.1,z.2.2.1,(zz P e z.2.2.2).map dz)else ae
def ezz(P:Program)(t:TypeId):Option (Nat×Nat×List Value):=(cS P t).bind λe=>(cA P e).map λz=>z.2
def K3(c:aY)(d:Option Tmp)(K:ah->Prop)(pf:ah)(z:Nat×Nat×List PV):Option Value->Option Value->Prop
 |some (.int .i64 n),J (.int .i64 m)=>(0<=n/\n<=m/\z.2.1*m<=140737488355328/\m<=4611686018427387904)/\
  dF c K d (.v (.sl Z z.1 (List.replicate n.toNat (uz (sw c d) z.2.2)))) pf
 |_,_=>False
def F4(P:Program)(c:aY)(t:TypeId)(l cc:Operand)(d:Option Tmp)(K:ah->Prop)(pf:ah):Prop:=
 match ez P t with
 |some z=>K3 c d K pf z (cr pf l) (cr pf cc)
 |none=>False
def iH:PV->Option (List (List PV))
 | .sl _ _ rows=>J rows
 |_=>ae
def As(pf:ah)(t:Nat):PF->ah
 | .ls es rows=>(pf.bU t (.v (.sl Z es rows))).kill t 0
 |_=>pf
def Cz(P:Program)(c:aY)(t:TypeId)(x:Operand)(d:Option Tmp)(K:ah->Prop)(pf:ah):Prop:=
 match x with
 | .tmp t'=>match(cS P t).bind λ_=>(dQ (As pf t' (pf t')) (As pf t' (pf t') t')).bind iH with
  |some rows=>rows.length<=kj->dF c K d (.v (.int .i64 rows.length)) (As pf t' (pf t'))
  |none=>False
 |_=>False
def QP(pf:ah):PF->Option (List (List PV))
 | .v (.sl _ _ rows)=>J rows
 | .rf s p=>match cb pf s p with
  |some (.sl _ _ rows)=>J rows
  |_=>ae
 |_=>ae
def QH(pf:ah):Operand->Option (List (List PV))
 | .tmp t=>QP pf (pf t)
 |_=>ae
def BX(P:Program)(c:aY)(op:BinOp)(t:TypeId)(x:Operand)(d:Option Tmp)(K:ah->Prop)(pf:ah):Prop:=
 match d,x,IZ op,QH pf x with
 |some d,.tmp _,J q,J rows=>(cS P t).isSome=Z/\∀b,(rows≠[]->b= !q)->dF c K (J d) (.v (.bool b)) pf
 |_,_,_,_=>False
def oJ(pf:ah):Option Operand->Option (Option Nat)
 |none=>J ae
 |some x=>(cr pf x).bind λ
  | .int _ n=>if 0<=n then J (J n.toNat)else ae
  |_=>ae
def tv(eI l:Nat)(h:Option Nat)(y:Nat->Nat->PF):PV->Option PF
 | .sl Z es rows=>if es=eI/\l<=h.getD rows.length/\h.getD rows.length<=rows.length then J (y l (h.getD rows.length))else ae
 | .sl aa es rows=>if es=eI/\l<=h.getD rows.length/\h.getD rows.length<=rows.length then J (.v (.sl aa es ((rows.take (h.getD rows.length)).drop l)))else ae
 |_=>ae
def HB(eI l:Nat)(h:Option Nat)(s:Nat)(p:aA)(lo hi:Nat):PV->Option PF
 | .sl Z es rows=>if(es=eI/\lo<=hi/\hi<=rows.length)/\l<=h.getD (hi-lo)/\h.getD (hi-lo)<=hi-lo then J (.rv s p (lo+l) (lo+h.getD (hi-lo)))else ae
 | .sl aa es rows=>if(es=eI/\lo<=hi/\hi<=rows.length)/\l<=h.getD (hi-lo)/\h.getD (hi-lo)<=hi-lo then J (.v (.sl aa es ((rows.take (lo+h.getD (hi-lo))).drop (lo+l))))else ae
 |_=>ae
def mZ(eI l:Nat)(h:Option Nat)(pf:ah)(t:Nat):PF->Option PF
 | .v x=>tv eI l h (λa b=>.rv t [] a b) x
 | .rf s p=>(cb pf s p).bind (tv eI l h λa b=>.rv s p a b)
 | .rv s p lo hi=>(cb pf s p).bind (HB eI l h s p lo hi)
 |_=>ae
def Dx(c:aY)(es:Nat)(t:Nat)(d:Option Tmp)(K:ah->Prop)(pf:ah)(l h m:Option (Option Nat)):Prop:=
 match l,h,m with
 |some l,J h,J ae=>match mZ es (l.getD 0) h pf t (pf t)with
  |some y=>dF c K d y pf
  |none=>False
 |some l,J (J h),J (J m)=>match(dQ pf (pf t)).bind iH with
  |some rows=>(l.getD 0=h/\h=m/\m<=rows.length)/\(∃y,mZ es (l.getD 0) (J h) pf t (pf t)=J y)/\dF c K d (.v (.sl Z es [])) pf
  |none=>False
 |_,_,_=>False
def Ed(P:Program)(c:aY)(ty:TypeId)(x:Operand)(l h m:Option Operand)(d:Option Tmp)(K:ah->Prop)(pf:ah):Prop:=
 match x,kV P ty with
 | .tmp t,J es=>Dx c es t d K pf (oJ pf l) (oJ pf h) (oJ pf m)
 |_,_=>False
def Lk(c:aY)(d:Option Tmp)(K:ah->Prop)(pf:ah)(x y:Operand):Option Value->Prop
 |some (.bool Z)=>match(cr pf x).bind ll with
  |some v=>dF c K d (.v v) pf
  |none=>False
 |some (.bool aa)=>match(cr pf y).bind ll with
  |some v=>dF c K d (.v v) pf
  |none=>False
 |_=>False
def Df(c:aY)(b x y:Operand)(d:Option Tmp)(K:ah->Prop)(pf:ah):Prop:=Lk c d K pf x y (cr pf b)
section
variable {nt:Nat}{pin:List (Nat×Value)}{E0 E E':Env}{pf:ah}{fr ai:FR}{c:aY}{P:Program}
variable{K:ah->Prop}{K':FR->AH->Prop}{o:Oper}{t:TypeId}{x:Operand}
def zw9(r:aq nt pin E0 E pf fr){s:Nat}{xs:List PV}(h:CA pf x=J (s,xs)):∃v,pf s=.v (.bO xs)/\fr s=.v v/\PR E (J (s,[])) (.bO xs) v/\∀H,bh fr H x=J (v,fr,H):=by
 have key:∀{s0:Nat}{y:PF},Cw s0 y=J (s,xs)->s0=s/\y=.v (.bO xs):=by
  intro s0 y h;unfold Cw at h;split at h
  ·cases h;exact⟨rfl,rfl⟩
  ·cases h
 cases x with
 |tmp t=>
  simp only[CA]at h;split at h
  ·rename_i s0 aE;obtain⟨rfl,hs⟩:=key h;have hf:=r.f t;rw[aE]at hf;obtain⟨v,h1,h2⟩:=hf;have hv:=Gl h2;have hg:=r.f s0;rw[hs]at hg;obtain⟨v',g1,g2⟩:=gi hg (by simp);rw[hv]at g1;cases g1;exact⟨v,hs,hv,g2,λH=>by simp[bh,h1]⟩
  ·obtain⟨rfl,hs⟩:=key h;have hg:=r.f t;rw[hs]at hg;obtain⟨v',g1,g2⟩:=gi hg (by simp);exact⟨v',hs,g1,g2,λH=>by simp[bh,g1]⟩
 |_=>simp[CA]at h
def zqs(r:aq c.nt pin E0 E pf fr)(hp:ew c pin){i:Nat}(ho:o.op=.extract x i)(h:EF c x i o.dst K pf)
(hk:∀pf' ai E',K pf'->aq c.nt pin E0 E' pf' ai->K' ai E'.H):aM P c.nt o K' fr E.H:=by
 obtain⟨d,op,ty,ps,af,g⟩:=o;simp only at ho h;subst ho;unfold EF at h;split at h
 ·rename_i s xs qg;obtain⟨hs,h⟩:=h;unfold JD at h;split at h
  ·rename_i y hy;obtain⟨hj,h⟩:=h;obtain⟨v,fy,jj,eS,YR⟩:=zw9 r qg;cases eS with
   | @bO _ _ ys hl h0 hh=>
   have hi:i<ys.toList.length:=by have:=(cT.1 hy).1;omega
   have Es:=cE hi;have Xq:=hh i y _ hy Es;refine K7 (P:=P) (op:=.extract x i) rfl (YR _) (w:=ys.toList[i]) (by simp only[eD];exact Es) ?_;split at h
   ·
    have fm:∀t:Nat,t≠s->∀q:aA,fg (s,[(0,i)]) (c.nt,[(0,0)]) (t,q)=ae:=λt ht q=>kO ht
    have r1:aq c.nt pin E0 (E.rl (fg (s,[(0,i)]) (c.nt,[(0,0)]))) ((pf.bU s (.v (.bO (xs.set i .au)))).kill s 1) fr:=by
     refine r.qt hs dO (λt ht tJ=>iZ λq=>fm t tJ _) (λL hL=>⟨λid q g1 g2 g3=>?_,λid q g1 g2 g3=>rfl⟩) (λ_ _=>rfl) (λ_=>.inl rfl) nF r.ok.rl.wf r.ok.rl.fresh (λ_ _ h1 h2=>.inl (by rw[h1]at h2;cases h2;rfl)) ?_ rfl r.pin
     ·have:q=[]:=mK (by omega);subst this;exact⟨by simp[Env.rl,g1,fg],g2⟩
     ·refine ou jj (.bO (by simpa using hl) (by intro e;exact h0 (by simpa using e)) λj x y g1 g2=>?_);rw[C6]at g1;by_cases e:i=j
      ·subst e;rw[aB rfl]at g1;split at g1
       ·cases g1;exact .au y
       ·cases g1
      ·rw[az e]at g1;refine(hh j x y g1 g2).move dO (iZ λq=>?_);simp[fg,cL,Lo.ch,e]
    exact gO r1 hp (Xq.move dO (lG λq=>by simpa[cL]using zgp (s,[(0,i)]) (c.nt,[(0,0)]) q)) h hk
   ·rename_i ho;exact gO r hp ((Xq.free (by simpa using ho)).up) h hk
  ·cases h
 ·cases h
def Oh{es:Nat}:∀{da:List (List Value)}(_:∀e,e∈da->e.length=es) {i j:Nat}{e:List Value},da[i]? =J e->j<es->da.flatten[i*es+j]? =e[j]? :=by
 intro da;induction da with
 |nil=>intro _ i j e h;simp at h
 |cons a l ih=>
  intro hl i j e h hj;have ha:=hl a (p9 ..);rw[Gt];cases i with
  |zero=>
   simp at h;subst h;rw[Nat.zero_mul,gk,fw (by omega)]
  |succ i=>
   rw[fT (by rw[ha,jZ];omega),ha];have:=ih (λe he=>hl e (nU _ he)) (i:=i) (by simpa using h) hj;rw[<-this];congr 1;rw[jZ];omega
def FK{es:Nat}:∀{da:List (List Value)}(_:∀e,e∈da->e.length=es),da.flatten.length=da.length*es:=by
 intro da;induction da with
 |nil=>intro _;simp
 |cons a l ih=>
  intro h;rw[Gt,bP,h a (p9 ..),ih (λe he=>h e (nU _ he)),dX,jZ];omega
def CX{x:Nat×Nat×List PV}(h:ez P t=J x):∃e g es b z,cS P t=J e/\cA P e=J (g,es,b,z)/\z.length=es/\es≠0/\z.all cq=Z/\x=(es,b,(zz P e z).map dz):=by
 simp only[ez,bR]at h;obtain⟨e,he,⟨g,es,b,z⟩,hz,h⟩:=h;split at h
 ·rename_i hc;simp only[bI,eC]at hc;simp only[aT]at h;exact⟨e,g,es,b,z,he,hz,hc.1.1,hc.1.2,hc.2,h.symm⟩
 ·cases h
def zux(r:aq c.nt pin E0 E pf fr)(hp:ew c pin){l cc:Operand}(ho:o.op=.makeSlice t l cc)(h:F4 P c t l cc o.dst K pf)
(hk:∀pf' ai E',K pf'->aq c.nt pin E0 E' pf' ai->K' ai E'.H):aM P c.nt o K' fr E.H:=by
 unfold F4 at h;split at h
 ·rename_i z hz;obtain⟨e,g,es,b,zc,he,ht,h5,h6,h7,rfl⟩:=CX hz;unfold K3 at h;split at h
  ·rename_i n m hn hm;obtain⟨⟨h1,h2,h3,h4⟩,h8⟩:=h;simp only at h3 h8;unfold aM;rw[ho];simp only[he,pX r hn,pX r hm,ht];rw[aB ⟨h1,h2,h3,h4,h5,h6,h7⟩];have ok:=r.ok;have qI:∀e,e∈List.replicate m.toNat zc->e.length=es:=λe he=>by rw[(nr.1 he).2];exact h5
   have eS:PR (E.push ⟨Z,(List.replicate m.toNat zc).flatten⟩ (c.nt,[(0,0)]) λ_=>ae) (J (c.nt,[(0,0)])) (.sl Z es (List.replicate n.toNat (uz (sw c o.dst) ((zz P e zc).map dz)))) (.slice (J ⟨E.H.n,0,J es⟩) n.toNat m.toNat):=by
    refine .fu zhy ok.yx xR rfl (by simp) (by omega) (by unfold kj;omega) (λrw hr=>by rw[(nr.1 hr).2,Ji];exact h5) ⟨⟨h6,rfl⟩,?_⟩ λi rw j x y g1 g2 g3=>?_
    ·rw[gk,FK qI];simp
    ·rw[gk]at g3;have hi:i<n.toNat:=by have:=(cT.1 g1).1;simpa using this
     have bc:=(nr.1 (eo g1)).2;subst bc;have hj:j<es:=by have:=(cT.1 g2).1;rw[Ji]at this;omega
     rw[Oh qI (e:=zc) (by rw[Kz,aB (by omega)]) hj]at g3;exact PA h7 (λ_=>J (cL (c.nt,[(0,0)]) i j)) j x y g2 g3
   have:=gO (K':=K') (r.env ok.push ok.uX λs _=>ok.m9 λ_=>rfl) hp eS h8 hk;exact this
  ·cases h
 ·cases h
def PJ(r:aq nt pin E0 E pf fr){t:Nat}{rows:List (List PV)}(h:(dQ pf (pf t)).bind iH=J rows):∃p cc,fr t=.v (.slice p rows.length cc)/\rows.length<=kj:=by
 obtain⟨x,hx,hl⟩:=bR.1 h
 have kK:∀{l:Lo}{o:Bool}{es:Nat}{rows:List (List PV)}{v:Value},PR E l (.sl o es rows) v->∃p cc,v=.slice p rows.length cc/\rows.length<=kj:=by
  intro l o es rows v h;generalize hx:PV.sl o es rows=x at h;cases h with
  |sl0 o es=>cases hx;exact⟨ae,0,rfl,Ky _⟩
  |jM hG hb hn hc hm hr hl h=>cases hx;exact⟨_,_,by rw[hn],by rw[hn];exact hm⟩
  |fu how hG hb bc hn hc hm hr hl h=>cases hx;exact⟨_,_,by rw[hn],by rw[hn];exact hm⟩
  |_=>cases hx
 have hf:=r.f t;cases x with
 |sl o es Aw=>
  simp only[iH,aT]at hl;subst hl;cases aE:pf t with
  |v x=>
   rw[aE]at hx hf;simp only[dQ,aT]at hx;subst hx;obtain⟨v,h1,h2⟩:=gi hf (by simp);obtain⟨p,cc,rfl,h3⟩:=kK h2;exact⟨p,cc,h1,h3⟩
  |rf s p=>
   rw[aE]at hx hf;simp only[dQ]at hx;obtain⟨v,h1,h2⟩:=hf;obtain⟨v',w1,w2⟩:=r.at hx (by simp) (iP r h2 hx);have:=w1.same h2;subst this;obtain⟨p,cc,rfl,h3⟩:=kK w2;exact⟨p,cc,h1,h3⟩
  |rv s p lo hi=>
   rw[aE]at hx hf;obtain⟨y,hy,gx⟩:=bR.1 hx;unfold Gj at gx;split at gx
   ·rename_i o' bw rows2;split at gx
    ·rename_i hb;simp only[aT,PV.sl.injEq]at gx;obtain⟨rfl,rfl,rfl⟩:=gx;rcases hf with⟨h1,h2,rfl,rfl⟩|⟨id,off,bw,n,cc,h1,h2,h3,h4⟩
     ·exact⟨ae,0,by simpa using h2,by simp⟩
     ·obtain⟨v',w1,w2⟩:=r.at hy (by simp) (iP r h1 hy);have:=w1.same h1;subst this;obtain⟨p,cc',e1,e2⟩:=kK w2;cases e1;have:((rows2.take hi).drop lo).length=hi-lo:=by simp;omega
      rw[this];exact⟨_,_,h4,by omega⟩
    ·cases gx
   ·cases gx
  |ra s p i j n=>
   rw[aE]at hx;simp only[dQ,bR]at hx;obtain⟨row,_,ng⟩:=hx;unfold wh at ng;split at ng<;>cases ng
  |_=>rw[aE]at hx;simp[dQ]at hx
 |_=>simp[iH]at hl
def zye(r:aq nt pin E0 E pf fr){t:Nat}{rows:List (List PV)}(h:QP pf (pf t)=J rows):(fr t=.v (.slice ae 0 0)/\rows=[])\/∃a n cc,fr t=.v (.slice (J a) n cc):=by
 have kK:∀{l:Lo}{o:Bool}{es:Nat}{rows:List (List PV)}{v:Value},PR E l (.sl o es rows) v->(v=.slice ae 0 0/\rows=[])\/∃a n cc,v=.slice (J a) n cc:=by
  intro l o es rows v h;generalize hx:PV.sl o es rows=x at h;cases h with
  |sl0 o es=>cases hx;exact .inl ⟨rfl,rfl⟩
  |jM hG hb hn hc hm hr hl h=>cases hx;exact .inr ⟨_,_,_,rfl⟩
  |fu how hG hb bc hn hc hm hr hl h=>cases hx;exact .inr ⟨_,_,_,rfl⟩
  |_=>cases hx
 have hf:=r.f t;unfold QP at h;split at h
 ·rename_i o es Aw aE;cases h;rw[aE]at hf;obtain⟨v,h1,h2⟩:=gi hf (by simp);rcases kK h2 with⟨rfl,h3⟩|⟨a,n,cc,rfl⟩
  ·exact .inl ⟨h1,h3⟩
  ·exact .inr ⟨a,n,cc,h1⟩
 ·rename_i s p aE;split at h
  ·rename_i o es Aw hx;cases h;rw[aE]at hf;obtain⟨v,h1,h2⟩:=hf;obtain⟨v',w1,w2⟩:=r.at hx (by simp) (iP r h2 hx);have:=w1.same h2;subst this;rcases kK w2 with⟨rfl,h3⟩|⟨a,n,cc,rfl⟩
   ·exact .inl ⟨h1,h3⟩
   ·exact .inr ⟨a,n,cc,h1⟩
  ·cases h
 ·cases h
def zuB(r:aq c.nt pin E0 E pf fr)(hp:ew c pin){op:BinOp}{y:Operand}{u:TypeId}(ho:o.op=.binOp op t x y u)(hy:uP y=Z)(h:BX P c op t x o.dst K pf)
(hk:∀pf' ai E',K pf'->aq c.nt pin E0 E' pf' ai->K' ai E'.H):fq P c.nt o K' fr E.H:=by
 unfold BX at h;split at h
 ·rename_i d t' q rows hd hq hr;obtain⟨h1,h2⟩:=h
  have T9:∀b,dF c K (J d) (.v (.bool b)) pf->d<c.nt/\K' (fr.put d (.v (.bool b))) E.H:=by
   intro b hb;have:=gO (E:=E) r hp (.bool b) hb hk;simpa[bB]using this
  have Qh:d<c.nt:=(T9 (!q) (h2 (!q) λ_=>rfl)).1;unfold fq;rw[ho,hd];refine⟨⟨Qh,hy,h1⟩,?_⟩;simp only[hq];rcases zye r hr with⟨e1,e2⟩|⟨a,n,cc,e1⟩
  ·simp only[be,e1];exact λb=>(T9 b (h2 b λhh=>absurd e2 hh)).2
  ·simp only[be,e1];exact(T9 (!q) (h2 (!q) λ_=>rfl)).2
 ·cases h
def zv8(r:aq c.nt pin E0 E pf fr)(hp:ew c pin){args:Array Operand}(ho:o.op=.call ⟨.builtin .len,args,#[t]⟩)(ha:args.toList=[x])(h:Cz P c t x o.dst K pf)
(hk:∀pf' ai E',K pf'->aq c.nt pin E0 E' pf' ai->K' ai E'.H):aM P c.nt o K' fr E.H:=by
 obtain⟨d,op,ty,ps,af,g⟩:=o;simp only at ho h;subst ho;unfold Cz at h;split at h
 ·rename_i t';split at h
  ·rename_i rows hr;obtain⟨e,he,hr⟩:=bR.1 hr
   have key:∃v0 fr1 E1,bh fr E.H (.tmp t')=J (v0,fr1,E1.H)/\fr1 t'=.v v0/\aq c.nt pin E0 E1 (As pf t' (pf t')) fr1:=by
    cases aE:pf t' with
    |ls es Aid=>
     have ht:t'<c.nt:=by
      rcases dK t' c.nt with h1|h1
      ·exact h1
      ·have:=r.hi t' h1;rw[aE]at this;cases this
     obtain⟨v,fr1,E1,m1,m2,m3,_,_⟩:=r.Q8 ht aE;exact⟨v,fr1,E1,m1,m2,m3⟩
    |_=>
     have gY:=hr;rw[aE]at gY;simp only[As]at gY;obtain⟨p,cc,h1,h2⟩:=PJ r gY;exact⟨_,fr,E,by simp only[bh,h1],h1,by simpa[As]using r⟩
   obtain⟨v0,fr1,E1,m1,m2,r1⟩:=key;obtain⟨p,cc,h1,h2⟩:=PJ r1 hr;rw[m2]at h1;cases h1;have hK:=gO r1 hp (.int .i64 (rows.length:Int)) (h h2) hk;exact K7 (P:=P) (op:=.call ⟨.builtin .len,args,#[t]⟩) (x:=.tmp t') (by simp[gp,ha]) m1 (w:=.int .i64 rows.length) (by simp[eD,Am.iH,he]) hK
  ·cases h
 ·cases h
def zuf(r:aq c.nt pin E0 E pf fr)(hp:ew c pin){b y:Operand}(ho:o.op=.pick b x y)(h:Df c b x y o.dst K pf)
(hk:∀pf' ai E',K pf'->aq c.nt pin E0 E' pf' ai->K' ai E'.H):aM P c.nt o K' fr E.H:=by
 unfold Df Lk at h;unfold aM;rw[ho];simp only;split at h
 ·rename_i hb;rw[pX r hb];split at h
  ·rename_i v hv;obtain⟨w,h1,h2⟩:=bR.1 hv;simp only[pX r h1];exact gO r hp (PP h2) h hk
  ·cases h
 ·rename_i hb;rw[pX r hb];split at h
  ·rename_i v hv;obtain⟨w,h1,h2⟩:=bR.1 hv;simp only[pX r h1];exact gO r hp (PP h2) h hk
  ·cases h
 ·cases h
end
end Go.Pm
