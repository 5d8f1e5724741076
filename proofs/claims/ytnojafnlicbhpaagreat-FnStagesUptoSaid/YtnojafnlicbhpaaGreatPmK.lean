import Derived.Test.YtnojafnlicbhpaaGreatPmJ
open Bool renaming false→aa,true→Z
open Option renaming none→ae,some→J
set_option linter.defProp false
namespace Go.Pm
def KC:=@List.getElem?_replicate
set_option linter.unusedSimpArgs false
open Go.Am
def CS(s:Nat):PF->Option (Nat×List PV)
 | .v (.bO xs)=>J (s,xs)
 |_=>ae
def CB(pf:ah):Operand->Option (Nat×List PV)
 | .tmp t=>match pf t with
  | .rf s []=>CS s (pf s)
  |y=>CS t y
 |_=>ae
def Jh(c:aY)(i:Nat)(d:Option Tmp)(K:ah->Prop)(pf:ah)(s:Nat)(xs:List PV):Option PV->Prop
 |some y=>dt y=aa/\if bK y=Z then dC c K d (.v y) ((pf.bS s (.v (.bO (xs.set i .au)))).kill s 1)else dC c K d (.v y) pf
 |none=>False
def Ek(c:aY)(x:Operand)(i:Nat)(d:Option Tmp)(K:ah->Prop)(pf:ah):Prop:=
 match CB pf x with
 |some (s,xs)=>s<c.nt/\Jh c i d K pf s xs xs[i]?
 |none=>False
def ez(P:Program)(t:TypeId):Option (Nat×Nat×List PV):=(cS P t).bind λe=>(cA P e).bind λz=>if(decide (z.2.2.2.length=z.2.1)&&decide (z.2.1≠0)&&z.2.2.2.all ct)=Z then J (z.2.1,z.2.2.1,(zz P e z.2.2.2).map dz)else ae
def ezz(P:Program)(t:TypeId):Option (Nat×Nat×List Value):=(cS P t).bind λe=>(cA P e).map λz=>z.2
def Mt(c:aY)(d:Option Tmp)(K:ah->Prop)(pf:ah)(z:Nat×Nat×List PV):Option Value->Option Value->Prop
 |some (.int .i64 n),J (.int .i64 m)=>(0<=n/\n<=m/\z.2.1*m<=140737488355328/\m<=4611686018427387904)/\
  dC c K d (.v (.sl Z z.1 (List.replicate n.toNat (uz (rQ c d) z.2.2)))) pf
 |_,_=>False
def DH(P:Program)(c:aY)(t:TypeId)(l cc:Operand)(d:Option Tmp)(K:ah->Prop)(pf:ah):Prop:=
 match ez P t with
 |some z=>Mt c d K pf z (cq pf l) (cq pf cc)
 |none=>False
def iM:PV->Option (List (List PV))
 | .sl _ _ rows=>J rows
 |_=>ae
def yZ(pf:ah)(t:Nat):PF->ah
 | .ls es rows=>(pf.bS t (.v (.sl Z es rows))).kill t 0
 |_=>pf
def A8(P:Program)(c:aY)(t:TypeId)(x:Operand)(d:Option Tmp)(K:ah->Prop)(pf:ah):Prop:=
 match x with
 | .tmp t'=>match(cS P t).bind λ_=>(dR (yZ pf t' (pf t')) (yZ pf t' (pf t') t')).bind iM with
  |some rows=>rows.length<=km->dC c K d (.v (.int .i64 rows.length)) (yZ pf t' (pf t'))
  |none=>False
 |_=>False
def SM(pf:ah):PF->Option (List (List PV))
 | .v (.sl _ _ rows)=>J rows
 | .rf s p=>match cj pf s p with
  |some (.sl _ _ rows)=>J rows
  |_=>ae
 |_=>ae
def Rl(pf:ah):Operand->Option (List (List PV))
 | .tmp t=>SM pf (pf t)
 |_=>ae
def BZ(P:Program)(c:aY)(op:BinOp)(t:TypeId)(x:Operand)(d:Option Tmp)(K:ah->Prop)(pf:ah):Prop:=
 match d,x,Hl op,Rl pf x with
 |some d,.tmp _,J q,J rows=>(cS P t).isSome=Z/\∀b,(rows≠[]->b= !q)->dC c K (J d) (.v (.bool b)) pf
 |_,_,_,_=>False
def oE(pf:ah):Option Operand->Option (Option Nat)
 |none=>J ae
 |some x=>(cq pf x).bind λ
  | .int _ n=>if 0<=n then J (J n.toNat)else ae
  |_=>ae
def th(eL l:Nat)(h:Option Nat)(y:Nat->Nat->PF):PV->Option PF
 | .sl Z es rows=>if es=eL/\l<=h.getD rows.length/\h.getD rows.length<=rows.length then J (y l (h.getD rows.length))else ae
 | .sl aa es rows=>if es=eL/\l<=h.getD rows.length/\h.getD rows.length<=rows.length then J (.v (.sl aa es ((rows.take (h.getD rows.length)).drop l)))else ae
 |_=>ae
def GP(eL l:Nat)(h:Option Nat)(s:Nat)(p:aA)(lo hi:Nat):PV->Option PF
 | .sl Z es rows=>if(es=eL/\lo<=hi/\hi<=rows.length)/\l<=h.getD (hi-lo)/\h.getD (hi-lo)<=hi-lo then J (.rv s p (lo+l) (lo+h.getD (hi-lo)))else ae
 | .sl aa es rows=>if(es=eL/\lo<=hi/\hi<=rows.length)/\l<=h.getD (hi-lo)/\h.getD (hi-lo)<=hi-lo then J (.v (.sl aa es ((rows.take (lo+h.getD (hi-lo))).drop (lo+l))))else ae
 |_=>ae
def mU(eL l:Nat)(h:Option Nat)(pf:ah)(t:Nat):PF->Option PF
 | .v x=>th eL l h (λa b=>.rv t [] a b) x
 | .rf s p=>(cj pf s p).bind (th eL l h λa b=>.rv s p a b)
 | .rv s p lo hi=>(cj pf s p).bind (GP eL l h s p lo hi)
 |_=>ae
def D7(c:aY)(es:Nat)(t:Nat)(d:Option Tmp)(K:ah->Prop)(pf:ah)(l h m:Option (Option Nat)):Prop:=
 match l,h,m with
 |some l,J h,J ae=>match mU es (l.getD 0) h pf t (pf t)with
  |some y=>dC c K d y pf
  |none=>False
 |some l,J (J h),J (J m)=>match(dR pf (pf t)).bind iM with
  |some rows=>(l.getD 0=h/\h=m/\m<=rows.length)/\(∃y,mU es (l.getD 0) (J h) pf t (pf t)=J y)/\dC c K d (.v (.sl Z es [])) pf
  |none=>False
 |_,_,_=>False
def E6(P:Program)(c:aY)(ty:TypeId)(x:Operand)(l h m:Option Operand)(d:Option Tmp)(K:ah->Prop)(pf:ah):Prop:=
 match x,kV P ty with
 | .tmp t,J es=>D7 c es t d K pf (oE pf l) (oE pf h) (oE pf m)
 |_,_=>False
def LK(c:aY)(d:Option Tmp)(K:ah->Prop)(pf:ah)(x y:Operand):Option Value->Prop
 |some (.bool Z)=>match(cq pf x).bind kT with
  |some v=>dC c K d (.v v) pf
  |none=>False
 |some (.bool aa)=>match(cq pf y).bind kT with
  |some v=>dC c K d (.v v) pf
  |none=>False
 |_=>False
def Fs(c:aY)(b x y:Operand)(d:Option Tmp)(K:ah->Prop)(pf:ah):Prop:=LK c d K pf x y (cq pf b)
section
variable {nt:Nat}{pin:List (Nat×Value)}{E0 E E':Env}{pf:ah}{fr ai:FR}{c:aY}{P:Program}
variable{K:ah->Prop}{K':FR->AH->Prop}{o:Oper}{t:TypeId}{x:Operand}
def zxP(r:aq nt pin E0 E pf fr){s:Nat}{xs:List PV}(h:CB pf x=J (s,xs)):∃v,pf s=.v (.bO xs)/\fr s=.v v/\PR E (J (s,[])) (.bO xs) v/\∀H,bh fr H x=J (v,fr,H):=by
 have key:∀{s0:Nat}{y:PF},CS s0 y=J (s,xs)->s0=s/\y=.v (.bO xs):=by
  intro s0 y h;unfold CS at h;split at h
  ·cases h;exact⟨rfl,rfl⟩
  ·cases h
 cases x with
 |tmp t=>
  simp only[CB]at h;split at h
  ·rename_i s0 aE;obtain⟨rfl,hs⟩:=key h;have hf:=r.f t;rw[aE]at hf;obtain⟨v,h1,h2⟩:=hf;have hv:=Di h2;have hg:=r.f s0;rw[hs]at hg;obtain⟨v',g1,g2⟩:=gi hg (by simp);rw[hv]at g1;cases g1;exact⟨v,hs,hv,g2,λH=>by simp[bh,h1]⟩
  ·obtain⟨rfl,hs⟩:=key h;have hg:=r.f t;rw[hs]at hg;obtain⟨v',g1,g2⟩:=gi hg (by simp);exact⟨v',hs,g1,g2,λH=>by simp[bh,g1]⟩
 |_=>simp[CB]at h
def zqx(r:aq c.nt pin E0 E pf fr)(hp:ep c pin){i:Nat}(ho:o.op=.extract x i)(h:Ek c x i o.dst K pf)
(hk:∀pf' ai E',K pf'->aq c.nt pin E0 E' pf' ai->K' ai E'.H):aM P c.nt o K' fr E.H:=by
 obtain⟨d,op,ty,ps,af,g⟩:=o;simp only at ho h;subst ho;unfold Ek at h;split at h
 ·rename_i s xs qW;obtain⟨hs,h⟩:=h;unfold Jh at h;split at h
  ·rename_i y hy;obtain⟨hj,h⟩:=h;obtain⟨v,fH,jy,eV,W8⟩:=zxP r qW;cases eV with
   | @bO _ _ ys hl h0 hh=>
   have hi:i<ys.toList.length:=by have:=(cT.1 hy).1;omega
   have Ez:=cE hi;have Xv:=hh i y _ hy Ez;refine Of (P:=P) (op:=.extract x i) rfl (W8 _) (w:=ys.toList[i]) (by simp only[eD];exact Ez) ?_;split at h
   ·
    have fj:∀t:Nat,t≠s->∀q:aA,fg (s,[(0,i)]) (c.nt,[(0,0)]) (t,q)=ae:=λt ht q=>kB ht
    have r1:aq c.nt pin E0 (E.rl (fg (s,[(0,i)]) (c.nt,[(0,0)]))) ((pf.bS s (.v (.bO (xs.set i .au)))).kill s 1) fr:=by
     refine r.qs hs dO (λt ht tY=>iZ λq=>fj t tY _) (λL hL=>⟨λid q g1 g2 g3=>?_,λid q g1 g2 g3=>rfl⟩) (λ_ _=>rfl) (λ_=>.inl rfl) nS r.ok.rl.wf r.ok.rl.fresh (λ_ _ h1 h2=>.inl (by rw[h1]at h2;cases h2;rfl)) ?_ rfl r.pin
     ·have:q=[]:=mL (by omega);subst this;exact⟨by simp[Env.rl,g1,fg],g2⟩
     ·refine n0 jy (.bO (by simpa using hl) (by intro e;exact h0 (by simpa using e)) λj x y g1 g2=>?_);rw[C7]at g1;by_cases e:i=j
      ·subst e;rw[aB rfl]at g1;split at g1
       ·cases g1;exact .au y
       ·cases g1
      ·rw[az e]at g1;refine(hh j x y g1 g2).move dO (iZ λq=>?_);simp[fg,cO,Lo.ch,e]
    exact gC r1 hp (Xv.move dO (k8 λq=>by simpa[cO]using zgw (s,[(0,i)]) (c.nt,[(0,0)]) q)) h hk
   ·rename_i ho;exact gC r hp ((Xv.free (by simpa using ho)).up) h hk
  ·cases h
 ·cases h
def M3{es:Nat}:∀{db:List (List Value)}(_:∀e,e∈db->e.length=es) {i j:Nat}{e:List Value},db[i]? =J e->j<es->db.flatten[i*es+j]? =e[j]? :=by
 intro db;induction db with
 |nil=>intro _ i j e h;simp at h
 |cons a l ih=>
  intro hl i j e h hj;have ha:=hl a (qc ..);rw[Gv];cases i with
  |zero=>
   simp at h;subst h;rw[Nat.zero_mul,gk,fw (by omega)]
  |succ i=>
   rw[fT (by rw[ha,jZ];omega),ha];have:=ih (λe he=>hl e (nV _ he)) (i:=i) (by simpa using h) hj;rw[<-this];congr 1;rw[jZ];omega
def Ev{es:Nat}:∀{db:List (List Value)}(_:∀e,e∈db->e.length=es),db.flatten.length=db.length*es:=by
 intro db;induction db with
 |nil=>intro _;simp
 |cons a l ih=>
  intro h;rw[Gv,bP,h a (qc ..),ih (λe he=>h e (nV _ he)),dX,jZ];omega
def CN{x:Nat×Nat×List PV}(h:ez P t=J x):∃e g es b z,cS P t=J e/\cA P e=J (g,es,b,z)/\z.length=es/\es≠0/\z.all ct=Z/\x=(es,b,(zz P e z).map dz):=by
 simp only[ez,bR]at h;obtain⟨e,he,⟨g,es,b,z⟩,hz,h⟩:=h;split at h
 ·rename_i hc;simp only[bI,eC]at hc;simp only[aT]at h;exact⟨e,g,es,b,z,he,hz,hc.1.1,hc.1.2,hc.2,h.symm⟩
 ·cases h
def zuf(r:aq c.nt pin E0 E pf fr)(hp:ep c pin){l cc:Operand}(ho:o.op=.makeSlice t l cc)(h:DH P c t l cc o.dst K pf)
(hk:∀pf' ai E',K pf'->aq c.nt pin E0 E' pf' ai->K' ai E'.H):aM P c.nt o K' fr E.H:=by
 unfold DH at h;split at h
 ·rename_i z hz;obtain⟨e,g,es,b,zc,he,ht,h5,h6,h7,rfl⟩:=CN hz;unfold Mt at h;split at h
  ·rename_i n m hn hm;obtain⟨⟨h1,h2,h3,h4⟩,h8⟩:=h;simp only at h3 h8;unfold aM;rw[ho];simp only[he,pA r hn,pA r hm,ht];rw[aB ⟨h1,h2,h3,h4,h5,h6,h7⟩];have ok:=r.ok;have qY:∀e,e∈List.replicate m.toNat zc->e.length=es:=λe he=>by rw[(nu.1 he).2];exact h5
   have eV:PR (E.push ⟨Z,(List.replicate m.toNat zc).flatten⟩ (c.nt,[(0,0)]) λ_=>ae) (J (c.nt,[(0,0)])) (.sl Z es (List.replicate n.toNat (uz (rQ c o.dst) ((zz P e zc).map dz)))) (.slice (J ⟨E.H.n,0,J es⟩) n.toNat m.toNat):=by
    refine .fk zhw ok.xJ yr rfl (by simp) (by omega) (by unfold km;omega) (λrw hr=>by rw[(nu.1 hr).2,Hj];exact h5) ⟨⟨h6,rfl⟩,?_⟩ λi rw j x y g1 g2 g3=>?_
    ·rw[gk,Ev qY];simp
    ·rw[gk]at g3;have hi:i<n.toNat:=by have:=(cT.1 g1).1;simpa using this
     have bc:=(nu.1 (eo g1)).2;subst bc;have hj:j<es:=by have:=(cT.1 g2).1;rw[Hj]at this;omega
     rw[M3 qY (e:=zc) (by rw[KC,aB (by omega)]) hj]at g3;exact OS h7 (λ_=>J (cO (c.nt,[(0,0)]) i j)) j x y g2 g3
   have:=gC (K':=K') (r.env ok.push ok.uZ λs _=>ok.mW λ_=>rfl) hp eV h8 hk;exact this
  ·cases h
 ·cases h
def RS(r:aq nt pin E0 E pf fr){t:Nat}{rows:List (List PV)}(h:(dR pf (pf t)).bind iM=J rows):∃p cc,fr t=.v (.slice p rows.length cc)/\rows.length<=km:=by
 obtain⟨x,hx,hl⟩:=bR.1 h
 have kG:∀{l:Lo}{o:Bool}{es:Nat}{rows:List (List PV)}{v:Value},PR E l (.sl o es rows) v->∃p cc,v=.slice p rows.length cc/\rows.length<=km:=by
  intro l o es rows v h;generalize hx:PV.sl o es rows=x at h;cases h with
  |sl0 o es=>cases hx;exact⟨ae,0,rfl,KB _⟩
  |jF hG hb hn hc hm hr hl h=>cases hx;exact⟨_,_,by rw[hn],by rw[hn];exact hm⟩
  |fk how hG hb bc hn hc hm hr hl h=>cases hx;exact⟨_,_,by rw[hn],by rw[hn];exact hm⟩
  |_=>cases hx
 have hf:=r.f t;cases x with
 |sl o es AB=>
  simp only[iM,aT]at hl;subst hl;cases aE:pf t with
  |v x=>
   rw[aE]at hx hf;simp only[dR,aT]at hx;subst hx;obtain⟨v,h1,h2⟩:=gi hf (by simp);obtain⟨p,cc,rfl,h3⟩:=kG h2;exact⟨p,cc,h1,h3⟩
  |rf s p=>
   rw[aE]at hx hf;simp only[dR]at hx;obtain⟨v,h1,h2⟩:=hf;obtain⟨v',w1,w2⟩:=r.at hx (by simp) (iQ r h2 hx);have:=w1.same h2;subst this;obtain⟨p,cc,rfl,h3⟩:=kG w2;exact⟨p,cc,h1,h3⟩
  |rv s p lo hi=>
   rw[aE]at hx hf;obtain⟨y,hy,gu⟩:=bR.1 hx;unfold FF at gu;split at gu
   ·rename_i o' bw rows2;split at gu
    ·rename_i hb;simp only[aT,PV.sl.injEq]at gu;obtain⟨rfl,rfl,rfl⟩:=gu;rcases hf with⟨h1,h2,rfl,rfl⟩|⟨id,off,bw,n,cc,h1,h2,h3,h4⟩
     ·exact⟨ae,0,by simpa using h2,by simp⟩
     ·obtain⟨v',w1,w2⟩:=r.at hy (by simp) (iQ r h1 hy);have:=w1.same h1;subst this;obtain⟨p,cc',e1,e2⟩:=kG w2;cases e1;have:((rows2.take hi).drop lo).length=hi-lo:=by simp;omega
      rw[this];exact⟨_,_,h4,by omega⟩
    ·cases gu
   ·cases gu
  |ra s p i j n=>
   rw[aE]at hx;simp only[dR,bR]at hx;obtain⟨row,_,nj⟩:=hx;unfold yb at nj;split at nj<;>cases nj
  |_=>rw[aE]at hx;simp[dR]at hx
 |_=>simp[iM]at hl
def zx0(r:aq nt pin E0 E pf fr){t:Nat}{rows:List (List PV)}(h:SM pf (pf t)=J rows):(fr t=.v (.slice ae 0 0)/\rows=[])\/∃a n cc,fr t=.v (.slice (J a) n cc):=by
 have kG:∀{l:Lo}{o:Bool}{es:Nat}{rows:List (List PV)}{v:Value},PR E l (.sl o es rows) v->(v=.slice ae 0 0/\rows=[])\/∃a n cc,v=.slice (J a) n cc:=by
  intro l o es rows v h;generalize hx:PV.sl o es rows=x at h;cases h with
  |sl0 o es=>cases hx;exact .inl ⟨rfl,rfl⟩
  |jF hG hb hn hc hm hr hl h=>cases hx;exact .inr ⟨_,_,_,rfl⟩
  |fk how hG hb bc hn hc hm hr hl h=>cases hx;exact .inr ⟨_,_,_,rfl⟩
  |_=>cases hx
 have hf:=r.f t;unfold SM at h;split at h
 ·rename_i o es AB aE;cases h;rw[aE]at hf;obtain⟨v,h1,h2⟩:=gi hf (by simp);rcases kG h2 with⟨rfl,h3⟩|⟨a,n,cc,rfl⟩
  ·exact .inl ⟨h1,h3⟩
  ·exact .inr ⟨a,n,cc,h1⟩
 ·rename_i s p aE;split at h
  ·rename_i o es AB hx;cases h;rw[aE]at hf;obtain⟨v,h1,h2⟩:=hf;obtain⟨v',w1,w2⟩:=r.at hx (by simp) (iQ r h2 hx);have:=w1.same h2;subst this;rcases kG w2 with⟨rfl,h3⟩|⟨a,n,cc,rfl⟩
   ·exact .inl ⟨h1,h3⟩
   ·exact .inr ⟨a,n,cc,h1⟩
  ·cases h
 ·cases h
def zur(r:aq c.nt pin E0 E pf fr)(hp:ep c pin){op:BinOp}{y:Operand}{u:TypeId}(ho:o.op=.binOp op t x y u)(hy:ua y=Z)(h:BZ P c op t x o.dst K pf)
(hk:∀pf' ai E',K pf'->aq c.nt pin E0 E' pf' ai->K' ai E'.H):fo P c.nt o K' fr E.H:=by
 unfold BZ at h;split at h
 ·rename_i d t' q rows hd hq hr;obtain⟨h1,h2⟩:=h
  have O3:∀b,dC c K (J d) (.v (.bool b)) pf->d<c.nt/\K' (fr.put d (.v (.bool b))) E.H:=by
   intro b hb;have:=gC (E:=E) r hp (.bool b) hb hk;simpa[bB]using this
  have Sf:d<c.nt:=(O3 (!q) (h2 (!q) λ_=>rfl)).1;unfold fo;rw[ho,hd];refine⟨⟨Sf,hy,h1⟩,?_⟩;simp only[hq];rcases zx0 r hr with⟨e1,e2⟩|⟨a,n,cc,e1⟩
  ·simp only[be,e1];exact λb=>(O3 b (h2 b λhh=>absurd e2 hh)).2
  ·simp only[be,e1];exact(O3 (!q) (h2 (!q) λ_=>rfl)).2
 ·cases h
def zvT(r:aq c.nt pin E0 E pf fr)(hp:ep c pin){args:Array Operand}(ho:o.op=.call ⟨.builtin .len,args,#[t]⟩)(ha:args.toList=[x])(h:A8 P c t x o.dst K pf)
(hk:∀pf' ai E',K pf'->aq c.nt pin E0 E' pf' ai->K' ai E'.H):aM P c.nt o K' fr E.H:=by
 obtain⟨d,op,ty,ps,af,g⟩:=o;simp only at ho h;subst ho;unfold A8 at h;split at h
 ·rename_i t';split at h
  ·rename_i rows hr;obtain⟨e,he,hr⟩:=bR.1 hr
   have key:∃v0 fr1 E1,bh fr E.H (.tmp t')=J (v0,fr1,E1.H)/\fr1 t'=.v v0/\aq c.nt pin E0 E1 (yZ pf t' (pf t')) fr1:=by
    cases aE:pf t' with
    |ls es a2E=>
     have ht:t'<c.nt:=by
      rcases dK t' c.nt with h1|h1
      ·exact h1
      ·have:=r.hi t' h1;rw[aE]at this;cases this
     obtain⟨v,fr1,E1,m1,m2,m3,_,_⟩:=r.QF ht aE;exact⟨v,fr1,E1,m1,m2,m3⟩
    |_=>
     have gX:=hr;rw[aE]at gX;simp only[yZ]at gX;obtain⟨p,cc,h1,h2⟩:=RS r gX;exact⟨_,fr,E,by simp only[bh,h1],h1,by simpa[yZ]using r⟩
   obtain⟨v0,fr1,E1,m1,m2,r1⟩:=key;obtain⟨p,cc,h1,h2⟩:=RS r1 hr;rw[m2]at h1;cases h1;have hK:=gC r1 hp (.int .i64 (rows.length:Int)) (h h2) hk;exact Of (P:=P) (op:=.call ⟨.builtin .len,args,#[t]⟩) (x:=.tmp t') (by simp[gw,ha]) m1 (w:=.int .i64 rows.length) (by simp[eD,Am.iM,he]) hK
  ·cases h
 ·cases h
def zuA(r:aq c.nt pin E0 E pf fr)(hp:ep c pin){b y:Operand}(ho:o.op=.pick b x y)(h:Fs c b x y o.dst K pf)
(hk:∀pf' ai E',K pf'->aq c.nt pin E0 E' pf' ai->K' ai E'.H):aM P c.nt o K' fr E.H:=by
 unfold Fs LK at h;unfold aM;rw[ho];simp only;split at h
 ·rename_i hb;rw[pA r hb];split at h
  ·rename_i v hv;obtain⟨w,h1,h2⟩:=bR.1 hv;simp only[pA r h1];exact gC r hp (Ry h2) h hk
  ·cases h
 ·rename_i hb;rw[pA r hb];split at h
  ·rename_i v hv;obtain⟨w,h1,h2⟩:=bR.1 hv;simp only[pA r h1];exact gC r hp (Ry h2) h hk
  ·cases h
 ·cases h
end
end Go.Pm
