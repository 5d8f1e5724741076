import Derived.Test.YtnojafnlicbhpaaGreatPmJ
open Bool renaming false→aa,true→Z
open Option renaming none→ae,some→J
set_option linter.defProp false
namespace Go.Pm
def L4:=@List.getElem?_replicate
set_option linter.unusedSimpArgs false
open Go.Am
def D1(s:Nat):PF->Option (Nat×List PV)
 | .v (.bS xs)=>J (s,xs)
 |_=>ae
def Cj(pf:ah):Operand->Option (Nat×List PV)
 | .tmp t=>match pf t with
  | .rf s []=>D1 s (pf s)
  |y=>D1 t y
 |_=>ae
def JV(c:aY)(i:Nat)(d:Option Tmp)(K:ah->Prop)(pf:ah)(s:Nat)(xs:List PV):Option PV->Prop
 |some y=>dB y=aa/\if bN y=Z then dI c K d (.v y) ((pf.bY s (.v (.bS (xs.set i .ax)))).kill s 1)else dI c K d (.v y) pf
 |none=>False
def G1(c:aY)(x:Operand)(i:Nat)(d:Option Tmp)(K:ah->Prop)(pf:ah):Prop:=
 match Cj pf x with
 |some (s,xs)=>s<c.nt/\JV c i d K pf s xs xs[i]?
 |none=>False
def ez(P:Program)(t:TypeId):Option (Nat×Nat×List PV):=(cW P t).bind λe=>(cF P e).bind λz=>if(decide (z.2.2.2.length=z.2.1)&&decide (z.2.1≠0)&&z.2.2.2.all cz)=Z then J (z.2.1,z.2.2.1,(zz P e z.2.2.2).map dz)else ae
def ezz(P:Program)(t:TypeId):Option (Nat×Nat×List Value):=(cW P t).bind λe=>(cF P e).map λz=>z.2
def OM(c:aY)(d:Option Tmp)(K:ah->Prop)(pf:ah)(z:Nat×Nat×List PV):Option Value->Option Value->Prop
 |some (.int .i64 n),J (.int .i64 m)=>(0<=n/\n<=m/\z.2.1*m<=140737488355328/\m<=4611686018427387904)/\
  dI c K d (.v (.sl Z z.1 (List.replicate n.toNat (uz (r9 c d) z.2.2)))) pf
 |_,_=>False
def G9(P:Program)(c:aY)(t:TypeId)(l cc:Operand)(d:Option Tmp)(K:ah->Prop)(pf:ah):Prop:=
 match ez P t with
 |some z=>OM c d K pf z (cu pf l) (cu pf cc)
 |none=>False
def iX:PV->Option (List (List PV))
 | .sl _ _ rows=>J rows
 |_=>ae
def A7(pf:ah)(t:Nat):PF->ah
 | .ls es rows=>(pf.bY t (.v (.sl Z es rows))).kill t 0
 |_=>pf
def Cm(P:Program)(c:aY)(t:TypeId)(x:Operand)(d:Option Tmp)(K:ah->Prop)(pf:ah):Prop:=
 match x with
 | .tmp t'=>match(cW P t).bind λ_=>(dW (A7 pf t' (pf t')) (A7 pf t' (pf t') t')).bind iX with
  |some rows=>rows.length<=kK->dI c K d (.v (.int .i64 rows.length)) (A7 pf t' (pf t'))
  |none=>False
 |_=>False
def TI(pf:ah):PF->Option (List (List PV))
 | .v (.sl _ _ rows)=>J rows
 | .rf s p=>match cn pf s p with
  |some (.sl _ _ rows)=>J rows
  |_=>ae
 |_=>ae
def UJ(pf:ah):Operand->Option (List (List PV))
 | .tmp t=>TI pf (pf t)
 |_=>ae
def Dq(P:Program)(c:aY)(op:BinOp)(t:TypeId)(x:Operand)(d:Option Tmp)(K:ah->Prop)(pf:ah):Prop:=
 match d,x,K9 op,UJ pf x with
 |some d,.tmp _,J q,J rows=>(cW P t).isSome=Z/\∀b,(rows≠[]->b= !q)->dI c K (J d) (.v (.bool b)) pf
 |_,_,_,_=>False
def pK(pf:ah):Option Operand->Option (Option Nat)
 |none=>J ae
 |some x=>(cu pf x).bind λ
  | .int _ n=>if 0<=n then J (J n.toNat)else ae
  |_=>ae
def tL(eW l:Nat)(h:Option Nat)(y:Nat->Nat->PF):PV->Option PF
 | .sl Z es rows=>if es=eW/\l<=h.getD rows.length/\h.getD rows.length<=rows.length then J (y l (h.getD rows.length))else ae
 | .sl aa es rows=>if es=eW/\l<=h.getD rows.length/\h.getD rows.length<=rows.length then J (.v (.sl aa es ((rows.take (h.getD rows.length)).drop l)))else ae
 |_=>ae
def J5(eW l:Nat)(h:Option Nat)(s:Nat)(p:aC)(lo hi:Nat):PV->Option PF
 | .sl Z es rows=>if(es=eW/\lo<=hi/\hi<=rows.length)/\l<=h.getD (hi-lo)/\h.getD (hi-lo)<=hi-lo then J (.rv s p (lo+l) (lo+h.getD (hi-lo)))else ae
 | .sl aa es rows=>if(es=eW/\lo<=hi/\hi<=rows.length)/\l<=h.getD (hi-lo)/\h.getD (hi-lo)<=hi-lo then J (.v (.sl aa es ((rows.take (lo+h.getD (hi-lo))).drop (lo+l))))else ae
 |_=>ae
def nM(eW l:Nat)(h:Option Nat)(pf:ah)(t:Nat):PF->Option PF
 | .v x=>tL eW l h (λa b=>.rv t [] a b) x
 | .rf s p=>(cn pf s p).bind (tL eW l h λa b=>.rv s p a b)
 | .rv s p lo hi=>(cn pf s p).bind (J5 eW l h s p lo hi)
 |_=>ae
def Gl(c:aY)(es:Nat)(t:Nat)(d:Option Tmp)(K:ah->Prop)(pf:ah)(l h m:Option (Option Nat)):Prop:=
 match l,h,m with
 |some l,J h,J ae=>match nM es (l.getD 0) h pf t (pf t)with
  |some y=>dI c K d y pf
  |none=>False
 |some l,J (J h),J (J m)=>match(dW pf (pf t)).bind iX with
  |some rows=>(l.getD 0=h/\h=m/\m<=rows.length)/\(∃y,nM es (l.getD 0) (J h) pf t (pf t)=J y)/\dI c K d (.v (.sl Z es [])) pf
  |none=>False
 |_,_,_=>False
def G8(P:Program)(c:aY)(ty:TypeId)(x:Operand)(l h m:Option Operand)(d:Option Tmp)(K:ah->Prop)(pf:ah):Prop:=
 match x,ma P ty with
 | .tmp t,J es=>Gl c es t d K pf (pK pf l) (pK pf h) (pK pf m)
 |_,_=>False
def PA(c:aY)(d:Option Tmp)(K:ah->Prop)(pf:ah)(x y:Operand):Option Value->Prop
 |some (.bool Z)=>match(cu pf x).bind l4 with
  |some v=>dI c K d (.v v) pf
  |none=>False
 |some (.bool aa)=>match(cu pf y).bind l4 with
  |some v=>dI c K d (.v v) pf
  |none=>False
 |_=>False
def EH(c:aY)(b x y:Operand)(d:Option Tmp)(K:ah->Prop)(pf:ah):Prop:=PA c d K pf x y (cu pf b)
section
variable {nt:Nat}{pin:List (Nat×Value)}{E0 E E':Env}{pf:ah}{fr ak:FR}{c:aY}{P:Program}
variable{K:ah->Prop}{K':FR->AH->Prop}{o:Oper}{t:TypeId}{x:Operand}
def zxn(r:av nt pin E0 E pf fr){s:Nat}{xs:List PV}(h:Cj pf x=J (s,xs)):∃v,pf s=.v (.bS xs)/\fr s=.v v/\PR E (J (s,[])) (.bS xs) v/\∀H,bg fr H x=J (v,fr,H):=by
 have key:∀{s0:Nat}{y:PF},D1 s0 y=J (s,xs)->s0=s/\y=.v (.bS xs):=by
  intro s0 y h;unfold D1 at h;split at h
  ·cases h;exact⟨rfl,rfl⟩
  ·cases h
 cases x with
 |tmp t=>
  simp only[Cj]at h;split at h
  ·rename_i s0 aF;obtain⟨rfl,hs⟩:=key h;have hf:=r.f t;rw[aF]at hf;obtain⟨v,h1,h2⟩:=hf;have hv:=Hn h2;have hg:=r.f s0;rw[hs]at hg;obtain⟨v',g1,g2⟩:=gA hg (by simp);rw[hv]at g1;cases g1;exact⟨v,hs,hv,g2,λH=>by simp[bg,h1]⟩
  ·obtain⟨rfl,hs⟩:=key h;have hg:=r.f t;rw[hs]at hg;obtain⟨v',g1,g2⟩:=gA hg (by simp);exact⟨v',hs,g1,g2,λH=>by simp[bg,g1]⟩
 |_=>simp[Cj]at h
def zqY(r:av c.nt pin E0 E pf fr)(hp:eG c pin){i:Nat}(ho:o.op=.extract x i)(h:G1 c x i o.dst K pf)
(hk:∀pf' ak E',K pf'->av c.nt pin E0 E' pf' ak->K' ak E'.H):aP P c.nt o K' fr E.H:=by
 obtain⟨d,op,ty,ps,af,g⟩:=o;simp only at ho h;subst ho;unfold G1 at h;split at h
 ·rename_i s xs qW;obtain⟨hs,h⟩:=h;unfold JV at h;split at h
  ·rename_i y hy;obtain⟨hj,h⟩:=h;obtain⟨v,fW,jL,fg,a0g⟩:=zxn r qW;cases fg with
   | @bS _ _ ys hl h0 hh=>
   have hi:i<ys.toList.length:=by have:=(cY.1 hy).1;omega
   have E4:=cJ hi;have a0Q:=hh i y _ hy E4;refine Nw (P:=P) (op:=.extract x i) rfl (a0g _) (w:=ys.toList[i]) (by simp only[eY];exact E4) ?_;split at h
   ·
    have fF:∀t:Nat,t≠s->∀q:aC,fq (s,[(0,i)]) (c.nt,[(0,0)]) (t,q)=ae:=λt ht q=>lq ht
    have r1:av c.nt pin E0 (E.rl (fq (s,[(0,i)]) (c.nt,[(0,0)]))) ((pf.bY s (.v (.bS (xs.set i .ax)))).kill s 1) fr:=by
     refine r.rK hs dU (λt ht tM=>jh λq=>fF t tM _) (λL hL=>⟨λid q g1 g2 g3=>?_,λid q g1 g2 g3=>rfl⟩) (λ_ _=>rfl) (λ_=>.inl rfl) oi r.ok.rl.wf r.ok.rl.fresh (λ_ _ h1 h2=>.inl (by rw[h1]at h2;cases h2;rfl)) ?_ rfl r.pin
     ·have:q=[]:=m9 (by omega);subst this;exact⟨by simp[Env.rl,g1,fq],g2⟩
     ·refine o9 jL (.bS (by simpa using hl) (by intro e;exact h0 (by simpa using e)) λj x y g1 g2=>?_);rw[Es]at g1;by_cases e:i=j
      ·subst e;rw[aD rfl]at g1;split at g1
       ·cases g1;exact .ax y
       ·cases g1
      ·rw[aB e]at g1;refine(hh j x y g1 g2).move dU (jh λq=>?_);simp[fq,cS,Lo.ch,e]
    exact g8 r1 hp (a0Q.move dU (lF λq=>by simpa[cS]using zgu (s,[(0,i)]) (c.nt,[(0,0)]) q)) h hk
   ·rename_i ho;exact g8 r hp ((a0Q.free (by simpa using ho)).up) h hk
  ·cases h
 ·cases h
def OV{es:Nat}:∀{dn:List (List Value)}(_:∀e,e∈dn->e.length=es) {i j:Nat}{e:List Value},dn[i]? =J e->j<es->dn.flatten[i*es+j]? =e[j]? :=by
 intro dn;induction dn with
 |nil=>intro _ i j e h;simp at h
 |cons a l ih=>
  intro hl i j e h hj;have ha:=hl a (qJ ..);rw[HI];cases i with
  |zero=>
   simp at h;subst h;rw[Nat.zero_mul,gE,fM (by omega)]
  |succ i=>
   rw[gj (by rw[ha,km];omega),ha];have:=ih (λe he=>hl e (oB _ he)) (i:=i) (by simpa using h) hj;rw[<-this];congr 1;rw[km];omega
def EB{es:Nat}:∀{dn:List (List Value)}(_:∀e,e∈dn->e.length=es),dn.flatten.length=dn.length*es:=by
 intro dn;induction dn with
 |nil=>intro _;simp
 |cons a l ih=>
  intro h;rw[HI,bT,h a (qJ ..),ih (λe he=>h e (oB _ he)),d5,km];omega
def D3{x:Nat×Nat×List PV}(h:ez P t=J x):∃e g es b z,cW P t=J e/\cF P e=J (g,es,b,z)/\z.length=es/\es≠0/\z.all cz=Z/\x=(es,b,(zz P e z).map dz):=by
 simp only[ez,bW]at h;obtain⟨e,he,⟨g,es,b,z⟩,hz,h⟩:=h;split at h
 ·rename_i hc;simp only[bK,eO]at hc;simp only[aT]at h;exact⟨e,g,es,b,z,he,hz,hc.1.1,hc.1.2,hc.2,h.symm⟩
 ·cases h
def zue(r:av c.nt pin E0 E pf fr)(hp:eG c pin){l cc:Operand}(ho:o.op=.makeSlice t l cc)(h:G9 P c t l cc o.dst K pf)
(hk:∀pf' ak E',K pf'->av c.nt pin E0 E' pf' ak->K' ak E'.H):aP P c.nt o K' fr E.H:=by
 unfold G9 at h;split at h
 ·rename_i z hz;obtain⟨e,g,es,b,zc,he,ht,h5,h6,h7,rfl⟩:=D3 hz;unfold OM at h;split at h
  ·rename_i n m hn hm;obtain⟨⟨h1,h2,h3,h4⟩,h8⟩:=h;simp only at h3 h8;unfold aP;rw[ho];simp only[he,qk r hn,qk r hm,ht];rw[aD ⟨h1,h2,h3,h4,h5,h6,h7⟩];have ok:=r.ok;have rN:∀e,e∈List.replicate m.toNat zc->e.length=es:=λe he=>by rw[(nN.1 he).2];exact h5
   have fg:PR (E.push ⟨Z,(List.replicate m.toNat zc).flatten⟩ (c.nt,[(0,0)]) λ_=>ae) (J (c.nt,[(0,0)])) (.sl Z es (List.replicate n.toNat (uz (r9 c o.dst) ((zz P e zc).map dz)))) (.slice (J ⟨E.H.n,0,J es⟩) n.toNat m.toNat):=by
    refine .fK zhD ok.xR xV rfl (by simp) (by omega) (by unfold kK;omega) (λrw hr=>by rw[(nN.1 hr).2,J7];exact h5) ⟨⟨h6,rfl⟩,?_⟩ λi rw j x y g1 g2 g3=>?_
    ·rw[gE,EB rN];simp
    ·rw[gE]at g3;have hi:i<n.toNat:=by have:=(cY.1 g1).1;simpa using this
     have bc:=(nN.1 (eA g1)).2;subst bc;have hj:j<es:=by have:=(cY.1 g2).1;rw[J7]at this;omega
     rw[OV rN (e:=zc) (by rw[L4,aD (by omega)]) hj]at g3;exact Vq h7 (λ_=>J (cS (c.nt,[(0,0)]) i j)) j x y g2 g3
   have:=g8 (K':=K') (r.env ok.push ok.wM λs _=>ok.nL λ_=>rfl) hp fg h8 hk;exact this
  ·cases h
 ·cases h
def SG(r:av nt pin E0 E pf fr){t:Nat}{rows:List (List PV)}(h:(dW pf (pf t)).bind iX=J rows):∃p cc,fr t=.v (.slice p rows.length cc)/\rows.length<=kK:=by
 obtain⟨x,hx,hl⟩:=bW.1 h
 have kX:∀{l:Lo}{o:Bool}{es:Nat}{rows:List (List PV)}{v:Value},PR E l (.sl o es rows) v->∃p cc,v=.slice p rows.length cc/\rows.length<=kK:=by
  intro l o es rows v h;generalize hx:PV.sl o es rows=x at h;cases h with
  |sl0 o es=>cases hx;exact⟨ae,0,rfl,L3 _⟩
  |jZ hG hb hn hc hm hr hl h=>cases hx;exact⟨_,_,by rw[hn],by rw[hn];exact hm⟩
  |fK how hG hb bc hn hc hm hr hl h=>cases hx;exact⟨_,_,by rw[hn],by rw[hn];exact hm⟩
  |_=>cases hx
 have hf:=r.f t;cases x with
 |sl o es Bg=>
  simp only[iX,aT]at hl;subst hl;cases aF:pf t with
  |v x=>
   rw[aF]at hx hf;simp only[dW,aT]at hx;subst hx;obtain⟨v,h1,h2⟩:=gA hf (by simp);obtain⟨p,cc,rfl,h3⟩:=kX h2;exact⟨p,cc,h1,h3⟩
  |rf s p=>
   rw[aF]at hx hf;simp only[dW]at hx;obtain⟨v,h1,h2⟩:=hf;obtain⟨v',w1,w2⟩:=r.at hx (by simp) (jn r h2 hx);have:=w1.same h2;subst this;obtain⟨p,cc,rfl,h3⟩:=kX w2;exact⟨p,cc,h1,h3⟩
  |rv s p lo hi=>
   rw[aF]at hx hf;obtain⟨y,hy,gM⟩:=bW.1 hx;unfold Fe at gM;split at gM
   ·rename_i o' bA rows2;split at gM
    ·rename_i hb;simp only[aT,PV.sl.injEq]at gM;obtain⟨rfl,rfl,rfl⟩:=gM;rcases hf with⟨h1,h2,rfl,rfl⟩|⟨id,off,bA,n,cc,h1,h2,h3,h4⟩
     ·exact⟨ae,0,by simpa using h2,by simp⟩
     ·obtain⟨v',w1,w2⟩:=r.at hy (by simp) (jn r h1 hy);have:=w1.same h1;subst this;obtain⟨p,cc',e1,e2⟩:=kX w2;cases e1;have:((rows2.take hi).drop lo).length=hi-lo:=by simp;omega
      rw[this];exact⟨_,_,h4,by omega⟩
    ·cases gM
   ·cases gM
  |ra s p i j n=>
   rw[aF]at hx;simp only[dW,bW]at hx;obtain⟨row,_,ny⟩:=hx;unfold zk at ny;split at ny<;>cases ny
  |_=>rw[aF]at hx;simp[dW]at hx
 |_=>simp[iX]at hl
def zxU(r:av nt pin E0 E pf fr){t:Nat}{rows:List (List PV)}(h:TI pf (pf t)=J rows):(fr t=.v (.slice ae 0 0)/\rows=[])\/∃a n cc,fr t=.v (.slice (J a) n cc):=by
 have kX:∀{l:Lo}{o:Bool}{es:Nat}{rows:List (List PV)}{v:Value},PR E l (.sl o es rows) v->(v=.slice ae 0 0/\rows=[])\/∃a n cc,v=.slice (J a) n cc:=by
  intro l o es rows v h;generalize hx:PV.sl o es rows=x at h;cases h with
  |sl0 o es=>cases hx;exact .inl ⟨rfl,rfl⟩
  |jZ hG hb hn hc hm hr hl h=>cases hx;exact .inr ⟨_,_,_,rfl⟩
  |fK how hG hb bc hn hc hm hr hl h=>cases hx;exact .inr ⟨_,_,_,rfl⟩
  |_=>cases hx
 have hf:=r.f t;unfold TI at h;split at h
 ·rename_i o es Bg aF;cases h;rw[aF]at hf;obtain⟨v,h1,h2⟩:=gA hf (by simp);rcases kX h2 with⟨rfl,h3⟩|⟨a,n,cc,rfl⟩
  ·exact .inl ⟨h1,h3⟩
  ·exact .inr ⟨a,n,cc,h1⟩
 ·rename_i s p aF;split at h
  ·rename_i o es Bg hx;cases h;rw[aF]at hf;obtain⟨v,h1,h2⟩:=hf;obtain⟨v',w1,w2⟩:=r.at hx (by simp) (jn r h2 hx);have:=w1.same h2;subst this;rcases kX w2 with⟨rfl,h3⟩|⟨a,n,cc,rfl⟩
   ·exact .inl ⟨h1,h3⟩
   ·exact .inr ⟨a,n,cc,h1⟩
  ·cases h
 ·cases h
def zuH(r:av c.nt pin E0 E pf fr)(hp:eG c pin){op:BinOp}{y:Operand}{u:TypeId}(ho:o.op=.binOp op t x y u)(hy:vk y=Z)(h:Dq P c op t x o.dst K pf)
(hk:∀pf' ak E',K pf'->av c.nt pin E0 E' pf' ak->K' ak E'.H):fC P c.nt o K' fr E.H:=by
 unfold Dq at h;split at h
 ·rename_i d t' q rows hd hq hr;obtain⟨h1,h2⟩:=h
  have Uv:∀b,dI c K (J d) (.v (.bool b)) pf->d<c.nt/\K' (fr.put d (.v (.bool b))) E.H:=by
   intro b hb;have:=g8 (E:=E) r hp (.bool b) hb hk;simpa[bC]using this
  have VF:d<c.nt:=(Uv (!q) (h2 (!q) λ_=>rfl)).1;unfold fC;rw[ho,hd];refine⟨⟨VF,hy,h1⟩,?_⟩;simp only[hq];rcases zxU r hr with⟨e1,e2⟩|⟨a,n,cc,e1⟩
  ·simp only[be,e1];exact λb=>(Uv b (h2 b λhh=>absurd e2 hh)).2
  ·simp only[be,e1];exact(Uv (!q) (h2 (!q) λ_=>rfl)).2
 ·cases h
def zvP(r:av c.nt pin E0 E pf fr)(hp:eG c pin){args:Array Operand}(ho:o.op=.call ⟨.builtin .len,args,#[t]⟩)(ha:args.toList=[x])(h:Cm P c t x o.dst K pf)
(hk:∀pf' ak E',K pf'->av c.nt pin E0 E' pf' ak->K' ak E'.H):aP P c.nt o K' fr E.H:=by
 obtain⟨d,op,ty,ps,af,g⟩:=o;simp only at ho h;subst ho;unfold Cm at h;split at h
 ·rename_i t';split at h
  ·rename_i rows hr;obtain⟨e,he,hr⟩:=bW.1 hr
   have key:∃v0 fr1 E1,bg fr E.H (.tmp t')=J (v0,fr1,E1.H)/\fr1 t'=.v v0/\av c.nt pin E0 E1 (A7 pf t' (pf t')) fr1:=by
    cases aF:pf t' with
    |ls es a6e=>
     have ht:t'<c.nt:=by
      rcases dQ t' c.nt with h1|h1
      ·exact h1
      ·have:=r.hi t' h1;rw[aF]at this;cases this
     obtain⟨v,fr1,E1,m1,m2,m3,_,_⟩:=r.Vi ht aF;exact⟨v,fr1,E1,m1,m2,m3⟩
    |_=>
     have im:=hr;rw[aF]at im;simp only[A7]at im;obtain⟨p,cc,h1,h2⟩:=SG r im;exact⟨_,fr,E,by simp only[bg,h1],h1,by simpa[A7]using r⟩
   obtain⟨v0,fr1,E1,m1,m2,r1⟩:=key;obtain⟨p,cc,h1,h2⟩:=SG r1 hr;rw[m2]at h1;cases h1;have hK:=g8 r1 hp (.int .i64 (rows.length:Int)) (h h2) hk;exact Nw (P:=P) (op:=.call ⟨.builtin .len,args,#[t]⟩) (x:=.tmp t') (by simp[gG,ha]) m1 (w:=.int .i64 rows.length) (by simp[eY,Am.iX,he]) hK
  ·cases h
 ·cases h
def zui(r:av c.nt pin E0 E pf fr)(hp:eG c pin){b y:Operand}(ho:o.op=.pick b x y)(h:EH c b x y o.dst K pf)
(hk:∀pf' ak E',K pf'->av c.nt pin E0 E' pf' ak->K' ak E'.H):aP P c.nt o K' fr E.H:=by
 unfold EH PA at h;unfold aP;rw[ho];simp only;split at h
 ·rename_i hb;rw[qk r hb];split at h
  ·rename_i v hv;obtain⟨w,h1,h2⟩:=bW.1 hv;simp only[qk r h1];exact g8 r hp (QJ h2) h hk
  ·cases h
 ·rename_i hb;rw[qk r hb];split at h
  ·rename_i v hv;obtain⟨w,h1,h2⟩:=bW.1 hv;simp only[qk r h1];exact g8 r hp (QJ h2) h hk
  ·cases h
 ·cases h
end
end Go.Pm
