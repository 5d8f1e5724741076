import Derived.Test.YtplemekcclpaoaaGreatDoorPmM
namespace Go.Pm
open Go.Am
def bsR(es:Nat):PV→Option (List (List PV))
 | .sl true es' rows=>if es'=es then some rows else none
 |_=>none
def noO(rows:List (List PV)):Bool:=rows.all (·.all fun x=> !zaC x)
def zeK(rows:List (List PV)):Bool:=rows.all (·.all zfJ)
def srV(es:Nat):PV→Option (List (List PV))
 | .sl true es' rows=>if es'=es∧noO rows=true then some rows else none
 | .sl false es' rows=>if es'=es then some rows else none
 |_=>none
def srF(es:Nat)(pf:PFr)(t:Nat):PF→Option (List (List PV)×PFr)
 | .ls es' rows=>if es'=es then some (rows,(pf.upd t jP).kill t 0)else none
 |y=>(za9 pf y).bind fun x=>(srV es x).map fun rows=>(rows,pf)
def srO(es:Nat)(pf:PFr):Operand→Option (List (List PV)×PFr)
 | .tmp t=>if t<0 then none else srF es pf t (pf t)
 | .const (.slice none 0 0)=>some ([],pf)
 |_=>none
def zqG(c:Cfg)(z:Nat×Nat×List PV)(d:Option Tmp)(K:PFr→Prop)(rows:List (List PV)):Option (List (List PV)×PFr)→Prop
 |some (rows2,pf2)=>zeK rows2=true∧((rows.length+rows2.length)*z.2.1≤140737488355328∧rows.length+rows2.length≤4611686018427387904)∧
  zbr c K d (.v (.sl true z.1 (rows++rows2))) pf2
 |none=>False
def zqQ(c:Cfg)(z:Nat×Nat×List PV)(x:Operand)(d:Option Tmp)(K:PFr→Prop):Option (PV×PFr)→Prop
 |some (b,pf1)=>match bsR z.1 b with
  |some rows=>zqG c z d K rows (srO z.1 pf1 x)
  |none=>False
 |none=>False
def zpm(P:Program)(c:Cfg)(t:TypeId)(s x:Operand)(d:Option Tmp)(K:PFr→Prop)(pf:PFr):Prop:=
 match ez P t with
 |some z=>zqQ c z x d K (zbg z.1 pf s)
 |none=>False
def vrF:PF→Bool
 | .v _| .rf _ _=>true
 |_=>false
def zuX(c:Cfg)(z:Nat×Nat×List PV)(d:Tmp)(n:Nat)(K:PFr→Prop):Option (PV×PFr)→Prop
 |some (b,pf1)=>match bsR z.1 b with
  |some rows=>(zeK [uz (nzB c (some d)) z.2.2]=true∧(rows.length+n)*z.2.1≤140737488355328∧rows.length+n≤4611686018427387904)∧zbr c K (some d) (.v (.sl true z.1 (rows++List.replicate n (uz (nzB c (some d)) z.2.2)))) pf1
  |none=>False
 |none=>False
def zos(P:Program)(c:Cfg)(t t':TypeId)(s x:Operand)(d:Option Tmp)(K:PFr→Prop)(pf:PFr):Prop:=
 match d,ez P t,rdS pf x,s with
 |some d,some z,some (.int .i64 n),.tmp q=>(c.hp≠[]∧(zde P t').isSome=true∧vrF (pf q)=true∧0<n∧(z.2.1:Int)*n≤140737488355328∧n≤4611686018427387904)∧zuX c z d n.toNat K (zbg z.1 pf (.tmp q))
 |_,_,_,_=>False
def zud(P:Program)(t:TypeId)(pf:PFr):PF→Option PFr
 | .rv s [] lo hi=>match ez P t,pf s with
  |some (1,_,[.int k n]),.v (.sl true 1 rows)=>if lo<hi∧hi≤rows.length then some ((pf.upd s (.v (.sl true 1 (rows.take lo++(List.replicate (hi-lo) [.int k n]++rows.drop hi))))).kill s 1)else none
  |_,_=>none
 |_=>none
def zuo(c:Cfg)(K:PFr→Prop):Option PFr→Prop
 |some pf'=>c.hp≠[]∧K pf'
 |none=>False
def zvg(P:Program)(c:Cfg)(d:Option Tmp)(K:PFr→Prop)(pf:PFr):List Operand→Array TypeId→Prop
 |[.tmp q],⟨[t]⟩=>d=none∧zuo c K (zud P t pf (pf q))
 |_,_=>False
def zBw:List PV→Option Int
 |[.int .u8 n]=>some n
 |_=>none
def ziM:List (List PV)→Option (List Int)
 |[]=>some []
 |r::rs=>(zBw r).bind fun n=>(ziM rs).map (n:: ·)
def bsE(P:Program)(s:TypeId)(pf:PFr)(x:Operand):Option (PF×PFr):=
 if zg1 P s=true then(srO 1 pf x).bind fun z=>(ziM z.1).map fun ns=>(.v (.str (zcY ns)),z.2)else none
def zoR:PF→Bool
 | .ls es _=>es==1
 |_=>false
def lsP(pf:PFr):Operand→Bool
 | .tmp u=>zoR (pf u)
 |_=>false
def zjg(P:Program)(c:Cfg)(s t:TypeId)(x:Operand)(d:Option Tmp)(K:PFr→Prop)(pf:PFr):Prop:=
 match d,bsE P s pf x with
 |some d,some (y,pf2)=>zaE P t=true∧zbr c K (some d) y pf2
 |_,_=>False
section
variable {nt:Nat}{pin:List (Nat×Value)}{E0 E E':Env}{pf:PFr}{fr fr':FR}{c:Cfg}{P:Program}
variable{K:PFr→Prop}{K':FR→AH→Prop}{R:Nat×zad}{args:Array Operand}{es n:Nat}{f:Nat×zad→Option (Nat×zad)}{o:Oper}{rows2:List (List PV)}{t:TypeId}{x:Operand}
theorem zxH:∀{ts us:List Nat}{fr:FR}{H:AH},zhs (ts++us) fr H=(zhs ts fr H).bind fun x=>zhs us x.1 x.2:=by
 intro ts;induction ts with
 |nil=>intro us fr H;rfl
 |cons t ts ih=>
  intro us fr H;simp only[List.cons_append,zhs];split
  ·exact ih
  ·rfl
theorem zoL{hb:Bool}:∀{xs:List Operand}{E:Env}{pf pf':PFr}{fr:FR}{ys:List PV},RelP nt pin E0 E pf fr→zi0 hb pf xs=some (ys,pf')→
 ∃vs fr' E' ts,zhs ts fr E.H=some (fr',E'.H)∧(hb=false→ts=[])∧(∀t w,fr t=.v w→fr' t=.v w)∧(∀fr2,(∀t w,fr' t=.v w→fr2 t=.v w)→∀H,zaG fr2 H xs=some (vs,fr2,H))∧GK E E'∧RelP nt pin E0 E' pf' fr'∧vs.length=ys.length∧ys.length=xs.length∧∀(k:Nat) (y:PV) (v:Value),ys[k]? =some y→vs[k]? =some v→PR E' none y v:=by
 intro xs;induction xs with
 |nil=>
  intro E pf pf' fr ys r h;simp only[zi0,Option.some.injEq,Prod.mk.injEq]at h;obtain⟨rfl,rfl⟩:=h;exact⟨[],fr,E,[],rfl,fun _=>rfl,fun _ _ h=>h,fun fr2 _ H=>rfl,GK.refl E,r,rfl,rfl,fun k y v h=>by simp at h⟩
 |cons x xs ih=>
  intro E pf pf' fr ys r h;simp only[zi0,Option.bind_eq_some_iff,Option.map_eq_some_iff,Prod.mk.injEq]at h;obtain⟨⟨y,pf1⟩,h1,⟨ys1,pf2⟩,h2,rfl,rfl⟩:=h;obtain⟨v,fr1,E1,ts1,l1,e1,s1,m1,g1,r1,p1⟩:=zuM r h1;obtain⟨vs,fr2,E2,ts2,l2,e2,s2,m2,g2,r2,k2,k3,p2⟩:=ih r1 h2;refine⟨v::vs,fr2,E2,ts1++ts2,by rw[zxH,l1];exact l2,fun hh=>by rw[e1 hh,e2 hh];rfl,fun t w hw=>s2 t w (s1 t w hw),fun fr3 hh H=>?_,g1.trans g2,r2,by simp[k2],by simp[k3],fun k z w hz hw=>?_⟩
  ·have a1:=m1 fr3 (fun t w hw=>hh t w (s2 t w hw)) H;have a2:=m2 fr3 hh H;simp[zaG,a1,a2]
  ·cases k with
   |zero=>simp at hz hw;subst hz;subst hw;exact p1.mono g2
   |succ k=>exact p2 k z w (by simpa using hz) (by simpa using hw)
theorem zsK(r:RelP c.nt pin E0 E pf fr)(hp:PinOK c pin){fn:Fn}{xs ys:Array Operand}(ho:o.op=.makeFunc fn xs ys)(h:zmT c fn xs.toList ys.toList o.dst K pf)
(hk:∀pf' fr' E',K pf'→RelP c.nt pin E0 E' pf' fr'→K' fr' E'.H):aop P c.nt o K' fr E.H∨(c.hp≠[]∧ahp P c.nt o K' fr E.H):=by
 obtain⟨d,op,ty,pp,af,g⟩:=o;simp only at ho h;subst ho;unfold zmT at h;split at h
 ·split at h
  ·rename_i y pf1 hy;obtain⟨⟨gg,s,zs⟩,h1,h2⟩:=Option.bind_eq_some_iff.1 hy;simp only[clM,Option.map_eq_some_iff,Prod.mk.injEq]at h2;obtain⟨⟨us,pf2⟩,hf,rfl,rfl⟩:=h2;unfold clS at h1;split at h1
   ·rename_i gg' s' zs' hxs hys;split at h1
    ·rename_i row hps;cases h1;obtain⟨v,g1,_⟩:=zcl (by have:=r.f s;rw[hps]at this;exact this) (by simp)
     have hs:s<c.nt:=by
      rcases Nat.lt_or_ge s c.nt with h1|h1
      ·exact h1
      ·have:=r.hi s h1;rw[hps]at this;cases this
     obtain⟨ws,fr1,E1,ts,ly,e1,s1,m1,g2,r1,l1,l2,p1⟩:=zoL r hf;have g3:=s1 s v g1;have hK:=zb1 (K':=K') r1 hp (y:=.cl s gg us) rfl hs (fv:=.v (.func (.func gg) #[] (v::ws).toArray)) ⟨v,ws,rfl,.inl ⟨v,g3,rfl⟩,l1.symm,p1⟩ h hk;have hsz:xs.size=0:=by have:=congrArg List.length hxs;simpa using this
     have hA:zaB P c.nt ⟨d,.makeFunc (.func gg) xs ys,ty,pp,af,g⟩ K' fr1 E1.H:=by
      have hm:zaG fr1 E1.H (xs.toList++ys.toList)=some (v::ws,fr1,E1.H):=by
       rw[hxs,hys];have:=m1 fr1 (fun _ _ h=>h) E1.H;simp[zaG,mat,g3,this]
      simp only[zaB,zaJ,hm,zaP,hsz];exact hK
     cases hhp:c.hp.isEmpty with
     |true=>
      rw[e1 (by rw[hhp];rfl)]at ly;simp only[zhs,Option.some.injEq,Prod.mk.injEq]at ly;obtain⟨e2,e3⟩:=ly;rw[←e2,←e3]at hA;exact .inl hA
     |false=>
      have hne:c.hp≠[]:=fun e=>by rw[e]at hhp;cases hhp
      exact .inr ⟨hne,ts,fr1,E1.H,ly,hA⟩
    ·cases h1
   ·cases h1
  ·cases h
 split at h
 ·rename_i vs pf1 hf;obtain⟨ws,fr1,E1,ts,ly,e1,s1,m1,g1,r1,l1,l2,p1⟩:=zoL r hf;have hsz:xs.size=xs.toList.length:=by simp
  have hv:PR E1 none (.func fn (vs.take xs.toList.length) (vs.drop xs.toList.length)) (.func fn (ws.take xs.size).toArray (ws.drop xs.size).toArray):=by
   rw[hsz];refine .func fn (by simp[l1]) (by simp[l1]) (fun i x y a b=>?_) fun i x y a b=>?_
   ·have b:(ws.take xs.toList.length)[i]? =some y:=by simpa using b
    rw[List.getElem?_take]at a b;split at a
    ·rename_i hlt;rw[if_pos hlt]at b;exact p1 i x y a b
    ·cases a
   ·have b:(ws.drop xs.toList.length)[i]? =some y:=by simpa using b
    rw[List.getElem?_drop]at a b;exact p1 _ x y a b
  have hK:=za6 r1 hp hv.up h hk
  have hA:zaB P c.nt ⟨d,.makeFunc fn xs ys,ty,pp,af,g⟩ K' fr1 E1.H:=by
   simp only[zaB,zaJ,m1 fr1 (fun _ _ h=>h),zaP];exact hK
  cases hhp:c.hp.isEmpty with
  |true=>
   rw[e1 (by rw[hhp];rfl)]at ly;simp only[zhs,Option.some.injEq,Prod.mk.injEq]at ly;obtain⟨e2,e3⟩:=ly;rw[←e2,←e3]at hA;exact .inl hA
  |false=>
   have hne:c.hp≠[]:=fun e=>by rw[e]at hhp;cases hhp
   exact .inr ⟨hne,ts,fr1,E1.H,ly,hA⟩
 ·cases h
structure SrcOK (E:Env) (es:Nat) (rows:List (List PV)) (new:List Value) (T:Lo) (f:Nat×zad→Option (Nat×zad)) (n:Nat) (R:Nat×zad):Prop where
 len:new.length=rows.length*es
 rl:∀r,r∈rows→r.length=es
 el:∀(i:Nat) (r:List PV) (j:Nat) (x:PV) (y:Value),rows[i]? =some r→r[j]? =some x→new[i*es+j]? =some y→PR E (T.ch i j) x y
 mv:∀a,T=some a→∀i j r,f (a.1,a.2++(i,j)::r)=some (R.1,R.2++(n+i,j)::r)
theorem zrB{cc:Nat}{rows:List (List PV)}{old new cells2:List Value}{T:Lo}{id2:Nat}
(h00:es≠0)(h0:∀(i:Nat) (r:List PV) (j:Nat) (x:PV) (y:Value),rows[i]? =some r→r[j]? =some x→old[i*es+j]? =some y→PR E (some (chl R i j)) x y)(hr:∀r,r∈rows→r.length=es)(hn:rows.length=n)
(hs:SrcOK E es rows2 new T f n R)(hg:GK E E')(hst:∀i j,MoveOK E E' (some (chl R i j)) (some (chl R i j)))(hmv:∀a b:Nat×zad,(∀r,f (a.1,a.2++r)=some (b.1,b.2++r))→MoveOK E E' (some a) (some b))
(ho:E'.ow id2=some R)(hG:¬E'.G id2)(hb:E'.H.b id2=some ⟨true,cells2⟩)(hcap:n+rows2.length≤cc)(hl:cc*es≤cells2.length)(hm:n+rows2.length≤zcx)
(c1:∀q,q<n*es→cells2[q]? =old[q]?)(c2:∀q,q<new.length→cells2[n*es+q]? =new[q]?):
 PR E' (some R) (.sl true es (rows++rows2)) (.slice (some ⟨id2,0,some es⟩) (n+rows2.length) cc):=by
 refine .slO ho hG hb rfl (by simp[hn]) hcap hm (fun r h=>?_) ⟨⟨h00,rfl⟩,by rw[Nat.zero_add];exact hl⟩ fun i r j x y g1 g2 g3=>?_
 ·rcases List.mem_append.1 h with h|h
  ·exact hr r h
  ·exact hs.rl r h
 ·rw[Nat.zero_add]at g3;by_cases hi:i<rows.length
  ·rw[List.getElem?_append_left hi]at g1;have hrl:=hr r (List.mem_of_getElem? g1);have hj:j<es:=by have:=(List.getElem?_eq_some_iff.1 g2).1;omega
   have hlt:i*es+j<n*es:=by
    have:(i+1)*es≤n*es:=Nat.mul_le_mul_right _ (by omega);rw[Nat.succ_mul]at this;omega
   rw[c1 _ hlt]at g3;exact(h0 i r j x y g1 g2 g3).move hg (hst i j)
  ·rw[List.getElem?_append_right (by omega)]at g1;have hrl:=hs.rl r (List.mem_of_getElem? g1);have hj:j<es:=by have:=(List.getElem?_eq_some_iff.1 g2).1;omega
   have hi2:i-rows.length<rows2.length:=(List.getElem?_eq_some_iff.1 g1).1
   have hlt:(i-rows.length)*es+j<new.length:=by
    rw[hs.len];have:(i-rows.length+1)*es≤rows2.length*es:=Nat.mul_le_mul_right _ (by omega);rw[Nat.succ_mul]at this;omega
   have e:i*es+j=n*es+((i-rows.length)*es+j):=by
    rw[←Nat.add_assoc,←Nat.add_mul];congr 2;omega
   rw[e,c2 _ hlt]at g3;have hpr:=hs.el _ r j x y g1 g2 g3;cases T with
   |none=>exact hpr.move hg True.intro
   |some a=>
    refine hpr.move hg (hmv (chl a (i-rows.length) j) (chl R i j) fun q=>?_);have:=hs.mv a rfl (i-rows.length) j q;rw[show n+(i-rows.length)=i by omega]at this;simpa[chl]using this
theorem zoI(ok:EnvOK E){g:Bool}{e:TypeId}{by_:Nat}{z:List Value}(he:zaw P t=some e)(ht:tsz P e=some (g,es,by_,z))(hz:z.length=es)(h0:es≠0)
{rows:List (List PV)}{sv:Value}{new:List Value}{T:Lo}(hx:PR E (some R) (.sl true es rows) sv)
(hs:SrcOK E es rows2 new T f rows.length R)(hsol:new.all zeb=true)(hfR:∀r,f (R.1,R.2++r)=none)
(hb1:(rows.length+rows2.length)*by_≤140737488355328)(hb2:rows.length+rows2.length≤4611686018427387904):
 ∃v E',zfj P t sv new rows2.length E.H=some (v,E'.H)∧EnvOK E'∧Since E E'∧PR E' (some R) (.sl true es (rows++rows2)) v∧
  (∀a:Nat×zad,(∀r,f (a.1,a.2++r)=none)→(∀r,(a.1,a.2++r)≠R)→MoveOK E E' (some a) (some a)):=by
 have hnew:¬(es=0∨z.length≠es∨new.all zeb=false):=by
  rintro(h|h|h)
  ·exact h0 h
  ·exact h hz
  ·rw[hsol]at h;cases h
 have hstch:∀(a:Nat×zad) i j,(∀r,f (a.1,a.2++r)=none)→∀r,f ((chl a i j).1,(chl a i j).2++r)=none:=fun a i j h r=>by rw[zgW];exact h _
 by_cases hm:rows2.length=0
 ·
  have hr2:rows2=[]:=List.eq_nil_of_length_eq_zero hm;subst hr2;refine⟨sv,E,?_,ok,Since.refl E,by simpa using hx,fun a _ _=>.refl _⟩;simp only[zfj,he,ht,if_neg hnew];cases hx with
  |sl0 _ _=>simp
  |slO how hG hb hrw hn hc hmx hr hl hh=>simp
 ·cases hx with
  |sl0 _ _=>
   simp only[List.length_nil,Nat.zero_add]at hb1 hb2;refine⟨.slice (some ⟨E.H.n,0,some es⟩) rows2.length rows2.length,E.push ⟨true,new⟩ R f,?_,ok.push,ok.since_push,?_,fun a h1 _=>ok.stay_push h1⟩
   ·simp only[zfj,he,ht,if_neg hnew,if_neg hm];rw[if_pos ⟨hb1,hb2⟩];rfl
   ·have:=zrB (E:=E) (E':=E.push ⟨true,new⟩ R f) (rows:=[]) (rows2:=rows2) (old:=[]) (new:=new) (cells2:=new) (R:=R) (T:=T) (f:=f) (id2:=E.H.n) (n:=0) (cc:=rows2.length) h0 (fun i r j x y h=>by simp at h) (fun r h=>by cases h) rfl hs ok.gk_push
     (fun i j=>ok.stay_push (hstch R i j hfR)) (fun a b h=>ok.move_push h) zge ok.newG zfX (by omega) (by rw[hs.len];exact Nat.le_refl _) (by unfold zcx;omega) (fun q hq=>by omega) (fun q hq=>by simp)
    simpa using this
  | @slO _ id off _ n c k _ how hG hb hrw hn hc hmx hr hl hh=>
   obtain⟨⟨hl0,rfl⟩,hl⟩:=hl;subst hn;rw[Nat.zero_add]at hl;have hlen:rows.length*es≤k.cells.length:=Nat.le_trans (Nat.mul_le_mul_right _ hc) hl;have hko:k=⟨true,k.cells⟩:=by obtain⟨q,cs⟩:=k;simp only at hrw;subst hrw;rfl
   have hold:∀(i:Nat) (r:List PV) (j:Nat) (x:PV) (y:Value),rows[i]? =some r→r[j]? =some x→k.cells[i*es+j]? =some y→PR E (some (chl R i j)) x y:=
    fun i r j x y a1 a2 a3=>hh i r j x y a1 a2 (by rw[Nat.zero_add];exact a3)
   have hnl:new.length=rows2.length*es:=hs.len
   have hne:new≠[]:=by
    intro e;rw[e]at hnl;have:1*1≤rows2.length*es:=Nat.mul_le_mul (by omega) (by omega);simp at hnl;omega
   have hidR:∀a:Nat×zad,(∀r,(a.1,a.2++r)≠R)→∀i r,E.ow i=some (a.1,a.2++r)→i≠id:=fun a ha i r h e=>by
    subst e;rw[how]at h;exact ha r (Option.some.inj h).symm
   have hchR:∀i j,∀r,((chl R i j).1,(chl R i j).2++r)≠R:=fun i j r e=>by
    have:=congrArg (fun z=>z.2.length) e;simp[chl]at this
   by_cases hroom:rows.length+rows2.length≤c
   ·
    have hmul:(rows.length+rows2.length)*es≤c*es:=Nat.mul_le_mul_right _ hroom;rw[Nat.add_mul]at hmul;obtain⟨cs,hcs⟩:=zhC (cs:=k.cells) (n:=0+rows.length*es) hne (by omega);obtain⟨b1,b2,b3,b4⟩:=zhF hne hcs;rw[Nat.zero_add]at b2 b3 b4
    let E1:Env:=⟨E.H.set id (some ⟨true,cs⟩),E.G,fun i=>(E.ow i).map fun x=>(f x).getD x⟩
    have hHne:∀i,i≠id→E1.H.b i=E.H.b i:=fun i hi=>by simp[E1,AH.set,hi]
    have hg:GK E E1:=fun i hi=>⟨hi,fun k0 hk0=>⟨k0,(hHne i fun e=>hG (by rw[←e];exact hi)).trans hk0,rfl⟩⟩
    have hok1:EnvOK E1:=⟨fun i k0 hk0=>by
     by_cases e:i=id
     ·subst e;exact ok.wf i k hb
     ·rw[hHne i e]at hk0;exact ok.wf i k0 hk0,fun i hi=>by
     obtain⟨g1,g2⟩:=ok.fresh i hi
     exact⟨by simp[E1,g1],g2⟩⟩
    have hst:∀a:Nat×zad,(∀r,f (a.1,a.2++r)=none)→(∀r,(a.1,a.2++r)≠R)→MoveOK E E1 (some a) (some a):=fun a h1 h2 i r g1 g2=>
     ⟨by simp[E1,g1,h1],g2,hHne i (hidR a h2 i r g1)⟩
    have hmv:∀a b:Nat×zad,(∀r,f (a.1,a.2++r)=some (b.1,b.2++r))→MoveOK E E1 (some a) (some b):=fun a b h i r g1 g2=>
     ⟨by simp[E1,g1,h],g2,hHne i fun e=>by
       subst e;rw[how]at g1;have:=h r;rw[←Option.some.inj g1]at this;have h3:=hfR [];rw[zji]at h3
       rw[h3]at this;cases this⟩
    have hR1:E1.ow id=some R:=by
     have h3:=hfR [];rw[zji]at h3;simp[E1,how,h3]
    refine⟨.slice (some ⟨id,0,some es⟩) (rows.length+rows2.length) c,E1,?_,hok1,⟨Nat.le_refl _,hg,fun i _ hi=>⟨by simp[E1,hi],hHne i (fun e=>by rw[e,how]at hi;cases hi),fun h=>h⟩⟩,?_,hst⟩
    ·simp only[zfj,he,ht,if_neg hnew,if_neg hm,hb];rw[if_pos ⟨hrw,trivial,by omega,hb1,hb2⟩,if_pos hroom,hcs]
    ·exact zrB (cells2:=cs) hl0 hold hr rfl hs hg (fun i j=>hst _ (hstch R i j hfR) (hchR i j)) hmv hR1 hG (by simp[E1,AH.set]) hroom (by rw[b1];exact hl) (by unfold zcx;omega)
      (fun q hq=>b3 q (by omega)) (fun q hq=>b4 q hq)
   ·
    let cells2:=k.cells.take (rows.length*es)++new
    have hc2l:cells2.length=(rows.length+rows2.length)*es:=by simp[cells2,hnl,Nat.add_mul];omega
    let E1:Env:=⟨(E.H.set id none).push ⟨true,cells2⟩,E.G,fun i=>if i=E.H.n then some R else(E.ow i).map fun x=>(f x).getD x⟩
    have hidn:id<E.H.n:=ok.wf id k hb
    have hHne:∀i,i≠id→i<E.H.n→E1.H.b i=E.H.b i:=fun i hi hlt=>by
     simp only[E1,AH.push,AH.set];have h9:i≠E.H.n:=Nat.ne_of_lt hlt;simp[h9,hi]
    have hHnew:E1.H.b E.H.n=some ⟨true,cells2⟩:=by simp[E1,AH.push,AH.set]
    have hg:GK E E1:=fun i hi=>⟨hi,fun k0 hk0=>⟨k0,(hHne i (fun e=>hG (by rw[←e];exact hi)) (ok.ltG hi)).trans hk0,rfl⟩⟩
    have hok1:EnvOK E1:=⟨fun i k0 hk0=>by
     show i<E.H.n+1;by_cases h9:i<E.H.n
     ·omega
     ·by_cases h8:i=E.H.n
      ·omega
      ·have h7:i≠id:=by omega
       simp[E1,AH.push,AH.set,h8,h7]at hk0;have:=ok.wf i k0 hk0;omega,fun i hi=>by
     have hi:E.H.n+1≤i:=hi;obtain⟨g1,g2⟩:=ok.fresh i (by omega)
     exact⟨by simp only[E1];rw[if_neg (by omega),g1];rfl,g2⟩⟩
    have hst:∀a:Nat×zad,(∀r,f (a.1,a.2++r)=none)→(∀r,(a.1,a.2++r)≠R)→MoveOK E E1 (some a) (some a):=fun a h1 h2 i r g1 g2=>
     ⟨by simp only[E1];rw[if_neg (Nat.ne_of_lt (ok.lt g1)),g1];simp[h1],g2,hHne i (hidR a h2 i r g1) (ok.lt g1)⟩
    have hmv:∀a b:Nat×zad,(∀r,f (a.1,a.2++r)=some (b.1,b.2++r))→MoveOK E E1 (some a) (some b):=fun a b h i r g1 g2=>
     ⟨by simp only[E1];rw[if_neg (Nat.ne_of_lt (ok.lt g1)),g1];simp[h],g2,hHne i (fun e=>by
       subst e;rw[how]at g1;have:=h r;rw[←Option.some.inj g1]at this;have h3:=hfR [];rw[zji]at h3
       rw[h3]at this;cases this) (ok.lt g1)⟩
    have htl:(k.cells.take (rows.length*es)).length=rows.length*es:=by rw[List.length_take];omega
    refine⟨.slice (some ⟨E.H.n,0,some es⟩) (rows.length+rows2.length) (rows.length+rows2.length),E1,?_,hok1,
     ⟨Nat.le_succ _,hg,fun i h1 hi=>⟨by simp only[E1];rw[if_neg (Nat.ne_of_lt h1),hi];rfl,hHne i (fun e=>by rw[e,how]at hi;cases hi) h1,fun h=>h⟩⟩,?_,hst⟩
    ·simp only[zfj,he,ht,if_neg hnew,if_neg hm,hb];rw[if_pos ⟨hrw,trivial,by omega,hb1,hb2⟩,if_neg hroom,if_pos trivial]
    ·exact zrB (cells2:=cells2) hl0 hold hr rfl hs hg (fun i j=>hst _ (hstch R i j hfR) (hchR i j)) hmv (by simp[E1]) (fun h=>(ok.fresh _ (Nat.le_refl _)).2 h) hHnew (Nat.le_refl _) (by rw[hc2l];exact Nat.le_refl _) (by unfold zcx;omega)
      (fun q hq=>by simp only[cells2];rw[List.getElem?_append_left (by omega),List.getElem?_take,if_pos hq]) (fun q hq=>by simp only[cells2];rw[List.getElem?_append_right (by omega),htl];congr 1;omega)
theorem zsf :SrcOK E es [] [] none f n R:=⟨by simp,fun r h=>(by cases h),fun i r j x y h=>(by simp at h),fun a h=>(by cases h)⟩
theorem zhE(r:RelP nt pin E0 E pf fr){pf2:PFr}(hR:R.1=nt){g:Bool}{e:TypeId}{by_:Nat}{z:List Value}(he:zaw P t=some e)(ht:tsz P e=some (g,es,by_,z))(h0:es≠0)
(h:srO es pf x=some (rows2,pf2)):
 ∃new T f,zdS P t fr E.H x=some (new,rows2.length)∧SrcOK E es rows2 new T f n R∧(∀r,f (R.1,R.2++r)=none)∧
  (∀E',EnvOK E'→Since E E'→(∀a:Nat×zad,(∀r,f (a.1,a.2++r)=none)→a.1<nt→MoveOK E E' (some a) (some a))→RelP nt pin E0 E' pf2 fr):=by
 have other:∀{t':Nat}{v:Value}{y:PV},fr t'=.v v→(∃l,PR E l y v)→srV es y=some rows2→
  ∃new,zdS P t fr E.H (.tmp t')=some (new,rows2.length)∧SrcOK E es rows2 new none (fun _=>none) n R:=by
  intro t' v y hv hpr hy;obtain⟨l,hpr⟩:=hpr;unfold srV at hy;split at hy
  ·rename_i es' rows;split at hy
   ·rename_i hc;obtain⟨rfl,hno⟩:=hc;simp only[Option.some.injEq]at hy;subst hy;cases hpr with
    |sl0 _ _=>exact⟨[],by simp[zdS,he,ht,hv],zsf⟩
    | @slO l id off _ m cc k _ how hG hb hrw hn hc hmx hr hl hh=>
     obtain⟨⟨hl0,rfl⟩,hl⟩:=hl;rw[Nat.zero_add]at hl;have hlen:m*es'≤k.cells.length:=Nat.le_trans (Nat.mul_le_mul_right _ hc) hl;refine⟨k.cells.take (m*es'),?_,?_,hr,fun i r j x y g1 g2 g3=>?_,fun a h=>(by cases h)⟩
     ·simp only[zdS,he,ht,hv];by_cases hm0:m=0
      ·subst hm0;rw[if_pos rfl];simp[hn]
      ·rw[if_neg hm0,if_neg (by simp)];simp only[AH.load,hb,Option.map_some,Option.bind_some,List.drop_zero,zhu hlen,hn]
     ·rw[List.length_take,hn];omega
     ·have hrl:=hr r (List.mem_of_getElem? g1);have hj:j<es':=by have:=(List.getElem?_eq_some_iff.1 g2).1;omega
      have hi:i<m:=by have:=(List.getElem?_eq_some_iff.1 g1).1;omega
      have hlt:i*es'+j<m*es':=by
       have:(i+1)*es'≤m*es':=Nat.mul_le_mul_right _ (by omega);rw[Nat.succ_mul]at this;omega
      rw[List.getElem?_take,if_pos hlt]at g3;refine(hh i r j x y g1 g2 (by rw[Nat.zero_add];exact g3)).free ?_;have h1:=List.all_eq_true.1 hno r (List.mem_of_getElem? g1);have h2:=List.all_eq_true.1 h1 x (List.mem_of_getElem? g2);simpa using h2
   ·cases hy
  ·rename_i es' rows;split at hy
   ·rename_i hc;subst hc;simp only[Option.some.injEq]at hy;subst hy;cases hpr with
    |sl0 _ _=>exact⟨[],by simp[zdS,he,ht,hv],zsf⟩
    | @slS _ id off _ m cc k _ hG hb hn hc hmx hr hl hh=>
     obtain⟨hl0,hl⟩:=hl;have hlen:m*es'≤(k.cells.drop off).length:=by simp;omega
     refine⟨(k.cells.drop off).take (m*es'),?_,?_,hr,fun i r j x y g1 g2 g3=>?_,fun a h=>(by cases h)⟩
     ·simp only[zdS,he,ht,hv];by_cases hm0:m=0
      ·subst hm0;rw[if_pos rfl];simp[hn]
      ·rw[if_neg hm0,if_neg (by simp)];simp only[AH.load,hb,Option.map_some,Option.bind_some,zhu hlen,hn]
     ·rw[List.length_take,hn];omega
     ·have hrl:=hr r (List.mem_of_getElem? g1);have hj:j<es':=by have:=(List.getElem?_eq_some_iff.1 g2).1;omega
      have hi:i<m:=by have:=(List.getElem?_eq_some_iff.1 g1).1;omega
      have hlt:i*es'+j<m*es':=by
       have:(i+1)*es'≤m*es':=Nat.mul_le_mul_right _ (by omega);rw[Nat.succ_mul]at this;omega
      rw[List.getElem?_take,if_pos hlt,List.getElem?_drop]at g3;exact hh i r j x y g1 g2 (by rw[Nat.add_assoc];exact g3)
   ·cases hy
  ·cases hy
 have fin:pf2=pf→∀E',EnvOK E'→Since E E'→(∀a:Nat×zad,(∀r,(fun _:Nat×zad=>(none:Option (Nat×zad))) (a.1,a.2++r)=none)→a.1<nt→MoveOK E E' (some a) (some a))→RelP nt pin E0 E' pf2 fr:=by
  intro e E' h1 h2 h3;subst e;exact r.env h1 h2 fun s hs=>h3 (s,[]) (fun _=>rfl) hs
 cases x with
 |const k=>
  have hk:k=.slice none 0 0:=by
   unfold srO at h;split at h
   ·rename_i heq;cases heq
   ·rename_i heq;cases heq;rfl
   ·cases h
  subst hk;simp only[srO,Option.some.injEq,Prod.mk.injEq]at h;obtain⟨rfl,rfl⟩:=h;exact⟨[],none,fun _=>none,by simp[zdS,he,ht],zsf,fun _=>rfl,fin rfl⟩
 |tmp t'=>
  simp only[srO,Nat.not_lt_zero,if_false]at h;have hf:=r.f t'
  have htl:t'<nt:=by
   rcases Nat.lt_or_ge t' nt with h1|h1
   ·exact h1
   ·rw[r.hi t' h1]at h;simp[srF,jP,za9,srV]at h
  cases hpt:pf t' with
  |ls es' rows=>
   rw[hpt]at h hf;simp only[srF]at h;split at h
   ·rename_i hes;subst hes;simp only[Option.some.injEq,Prod.mk.injEq]at h;obtain⟨rfl,rfl⟩:=h;obtain⟨cells,c1,c2,c3,c4,c5⟩:=hf
    let f:Nat×zad→Option (Nat×zad):=fun x=>if x.1=t' then match x.2 with
     |(i,j)::r=>some (R.1,R.2++(n+i,j)::r)
     |[]=>none else none
    refine⟨cells,some (t',[]),f,by simp[zdS,he,ht,c1],⟨c2,c4,fun i r j x y g1 g2 g3=>by simpa[Lo.ch,chl]using c5 i r j x y g1 g2 g3,fun a ha i j q=>?_⟩,fun q=>?_,fun E' h1 h2 h3=>?_⟩
    ·cases ha;simp[f]
    ·have:R.1≠t':=fun e=>by rw[hR]at e;exact Nat.lt_irrefl _ (e▸htl)
     simp[f,this]
    ·refine r.chg htl h2.g (fun s hs hst=>h3 (s,[]) (fun q=>by simp[f,hst]) hs) (fun L hL=>absurd hL (Nat.not_lt_zero _)) (fun _ _=>rfl) (fun h=>absurd h (Nat.lt_irrefl _)) h2 h1.wf h1.fresh (fun _ _ h1 h2=>.inl (by rw[h1]at h2;cases h2;rfl)) zfY rfl r.pin
   ·cases h
  |v x=>
   rw[hpt]at h hf;simp only[srF,za9,Option.bind_some,Option.map_eq_some_iff,Prod.mk.injEq]at h;obtain⟨rows,h1,rfl,rfl⟩:=h;obtain⟨v,h2,h3⟩:=zcl hf (by rintro rfl;simp[srV]at h1);obtain⟨new,q1,q2⟩:=other h2 ⟨_,h3⟩ h1;exact⟨new,none,_,q1,q2,fun _=>rfl,fin rfl⟩
  |rf s p=>
   rw[hpt]at h hf;simp only[srF,za9,Option.bind_eq_some_iff,Option.map_eq_some_iff,Prod.mk.injEq]at h;obtain⟨x,hx,rows,h1,rfl,rfl⟩:=h;obtain⟨v,h2,h3⟩:=hf;obtain⟨v',w1,w2⟩:=r.at hx (by rintro rfl;simp[srV]at h1) (zbc r h3 hx);have:=w1.same h3;subst this;obtain⟨new,q1,q2⟩:=other h2 ⟨_,w2⟩ h1;exact⟨new,none,_,q1,q2,fun _=>rfl,fin rfl⟩
  |rv s p lo hi=>
   rw[hpt]at h hf;simp only[srF,za9,Option.bind_eq_some_iff,Option.map_eq_some_iff,Prod.mk.injEq]at h;obtain⟨x,⟨y,hy,hcut⟩,rows,h1,rfl,rfl⟩:=h;unfold zmU at hcut;split at hcut
   ·rename_i o es' rowsy;split at hcut
    ·rename_i hb;simp only[Option.some.injEq]at hcut;subst hcut;rcases hf with⟨h2,h3,rfl,rfl⟩|⟨id,off,es2,m,cc,h2,h3,h4,h5⟩
     ·obtain⟨new,q1,q2⟩:=other h3 ⟨none,by simpa using PR.sl0 (E:=E) (l:=none) o es'⟩ h1;exact⟨new,none,_,q1,q2,fun _=>rfl,fin rfl⟩
     ·obtain⟨v',w1,w2⟩:=r.at hy (by simp) (zbc r h2 hy);have:=w1.same h2;subst this;have ee:=zj3 w2;subst ee;cases o with
      |false=>
       obtain⟨_,_,_,e3⟩:=w2.cut h3 h4;obtain⟨new,q1,q2⟩:=other h5 ⟨_,e3⟩ h1;exact⟨new,none,_,q1,q2,fun _=>rfl,fin rfl⟩
      |true=>
       simp only[srV]at h1;split at h1
       ·rename_i hc;obtain⟨rfl,hno⟩:=hc;simp only[Option.some.injEq]at h1;subst h1;cases w2 with
        | @slO l id off _ m cc k _ how hG hb' hrw hn hc hmx hr hl hh=>
         obtain⟨⟨hl0,rfl⟩,hl⟩:=hl;rw[Nat.zero_add]at hl h5;have hhi:hi*es'≤k.cells.length:=Nat.le_trans (Nat.mul_le_mul_right _ (by omega)) hl;have hsum:lo*es'+(hi-lo)*es'=hi*es':=by rw[←Nat.add_mul];congr 1;omega
         have hlen:(hi-lo)*es'≤(k.cells.drop (lo*es')).length:=by simp;omega
         have hrl:((rowsy.take hi).drop lo).length=hi-lo:=by simp;omega
         refine⟨(k.cells.drop (lo*es')).take ((hi-lo)*es'),none,fun _=>none,?_,⟨?_,fun r hr'=>hr r (List.mem_of_mem_take (List.mem_of_mem_drop hr')),fun i r j x y g1 g2 g3=>?_,fun a h=>(by cases h)⟩,fun _=>rfl,fin rfl⟩
         ·simp only[zdS,he,ht,h5];by_cases hm0:hi-lo=0
          ·rw[if_pos hm0,hm0];simp[hrl,hm0]
          ·rw[if_neg hm0,if_neg (by simp)];simp only[AH.load,hb',Option.map_some,Option.bind_some,zhu hlen,hrl]
         ·rw[List.length_take,hrl];omega
         ·have g1':=g1;rw[List.getElem?_drop,List.getElem?_take]at g1;split at g1
          ·rename_i hlt0;have hrl:=hr r (List.mem_of_getElem? g1);have hj:j<es':=by have:=(List.getElem?_eq_some_iff.1 g2).1;omega
           have hlt:i*es'+j<(hi-lo)*es':=by
            have:(i+1)*es'≤(hi-lo)*es':=Nat.mul_le_mul_right _ (by omega);rw[Nat.succ_mul]at this;omega
           rw[List.getElem?_take,if_pos hlt,List.getElem?_drop]at g3;refine(hh (lo+i) r j x y g1 g2 (by rw[Nat.zero_add,←g3];congr 1;rw[Nat.add_mul];omega)).free ?_;have h1:=List.all_eq_true.1 hno r (List.mem_of_getElem? g1');have h2:=List.all_eq_true.1 h1 x (List.mem_of_getElem? g2);simpa using h2
          ·cases g1
       ·cases h1
    ·cases hcut
   ·cases hcut
  |ra s p i j m=>
   rw[hpt]at h;simp only[srF,za9,Option.bind_eq_some_iff,Option.map_eq_some_iff,Prod.mk.injEq]at h;obtain⟨x,⟨y,_,hra⟩,rows,h1,_⟩:=h;unfold zi7 at hra;split at hra
   ·cases hra;simp[srV]at h1
   ·cases hra
  |_=>rw[hpt]at h;simp[srF,za9]at h
 |func _=>simp[srO]at h
 |global _=>simp[srO]at h
theorem zva:∀{rows:List (List PV)}{ns:List Int},ziM rows=some ns→ns.length=rows.length∧∀(i:Nat) (n:Int),ns[i]? =some n→rows[i]? =some [.int .u8 n]:=by
 intro rows;induction rows with
 |nil=>intro ns h;simp only[ziM,Option.some.injEq]at h;subst h;exact⟨rfl,fun i n h=>by simp at h⟩
 |cons r rs ih=>
  intro ns h;simp only[ziM,Option.bind_eq_some_iff,Option.map_eq_some_iff]at h;obtain⟨n,h1,ns',h2,rfl⟩:=h;obtain⟨i1,i2⟩:=ih h2
  have hr:r=[.int .u8 n]:=by
   unfold zBw at h1;split at h1
   ·cases h1;rfl
   ·cases h1
  refine⟨by simp[i1],fun i k hk=>?_⟩;cases i with
  |zero=>simp at hk;subst hk;simp[hr]
  |succ i=>simpa using i2 i k (by simpa using hk)
theorem znm(r:RelP c.nt pin E0 E pf fr)(hp:PinOK c pin){s:TypeId}(ho:o.op=.convert s t x)(h:zjg P c s t x o.dst K pf)
(hk:∀pf' fr' E',K pf'→RelP c.nt pin E0 E' pf' fr'→K' fr' E'.H):ahp P c.nt o K' fr E.H:=by
 unfold zjg at h;split at h
 ·rename_i d y pf2 hd hb;obtain⟨hst,h⟩:=h;unfold bsE at hb;split at hb
  ·rename_i hby;simp only[Option.bind_eq_some_iff,Option.map_eq_some_iff,Prod.mk.injEq]at hb;obtain⟨⟨rows,pf3⟩,h1,ns,h2,rfl,rfl⟩:=hb
   obtain⟨e,he,ht⟩:∃e,zaw P s=some e∧∃g b z,tsz P e=some (g,1,b,z):=by
    unfold zg1 at hby;split at hby
    ·rename_i e he;split at hby
     ·rename_i ht;exact⟨e,he,_,_,_,ht⟩
     ·cases hby
    ·cases hby
   obtain⟨g,b,z,ht⟩:=ht;obtain⟨new,T,f,q1,q2,_,q4⟩:=zhE (n:=0) (R:=(c.nt,[])) r rfl he ht (by omega) h1;have r2:=q4 E r.ok (Since.refl E) fun a _ _=>fun id q h1 h2=>⟨h1,h2,rfl⟩
   obtain⟨n1,n2⟩:=zva h2
   have hnew:new=ns.map (Value.int .u8):=by
    have hl:=q2.len;dsimp only at hl n1;rw[Nat.mul_one]at hl;apply List.ext_getElem?;intro i;by_cases hi:i<new.length
    ·have hi2:i<ns.length:=by omega
     have a1:ns[i]? =some ns[i]:=List.getElem?_eq_getElem hi2;have a2:=n2 i _ a1;have a3:new[i*1+0]? =some (new[i]'hi):=by simp[List.getElem?_eq_getElem hi]
     have a4:=q2.el i _ 0 _ _ a2 rfl a3;rw[List.getElem?_eq_getElem hi,List.getElem?_map,a1];generalize new[i]'hi=w at a4⊢;generalize T.ch i 0=lo at a4;cases a4;rfl
    ·rw[List.getElem?_eq_none (by omega),List.getElem?_eq_none (by simp;omega)]
   have hd1:d<c.nt:=by
    have:=h.1;simp only[ckd,Bool.and_eq_true,decide_eq_true_eq]at this;exact this.1.1
   have hK:=za6 r2 hp (.str (zcY ns)) h hk;unfold ahp;rw[ho,hd];simp only[q1];refine⟨⟨hd1,hby,hst⟩,ns,hnew,?_⟩;simpa[zar,hd1]using hK
  ·cases hb
 ·cases h
theorem zzv(r:RelP c.nt pin E0 E pf fr){s:TypeId}(ho:o.op=.convert s t x)(hl:lsP pf x=true)(h:ahp P c.nt o K' fr E.H):aop P c.nt o K' fr E.H:=by
 cases x with
 |tmp u=>
  obtain⟨rows,hpt⟩:∃rows,pf u=.ls 1 rows:=by
   have hl:zoR (pf u)=true:=hl;cases e:pf u with
   |ls es rows=>
    rw[e]at hl;have h1:es=1:=by simpa[zoR]using hl
    exact⟨rows,by rw[h1]⟩
   |_=>rw[e]at hl;cases hl
  have hf:=r.f u;rw[hpt]at hf;obtain⟨cells,h1,_⟩:=hf;cases hd:o.dst with
  |none=>simp only[ahp,ho,hd]at h
  |some d=>
   simp only[ahp,ho,hd]at h;obtain⟨⟨k1,k2,k3⟩,h⟩:=h;split at h
   ·rename_i cs n hsrc;obtain⟨ns,rfl,hK⟩:=h;simp only[aop,ho];refine .inr ⟨⟨k2,k3,by rw[hd];rfl⟩,rows.length,ns,?_,by rw[hd];simpa[zar,k1]using hK⟩
    have hc:cells=ns.map (Value.int .u8):=by
     unfold zdS at hsrc;split at hsrc
     ·cases hsrc
     ·split at hsrc
      ·cases hsrc
      ·simp only[h1]at hsrc;split at hsrc
       ·cases hsrc;rfl
       ·cases hsrc
    simp only[lsQ,h1,hc,if_true]
   ·cases h
 |_=>cases hl
theorem zuD(r:RelP c.nt pin E0 E pf fr)(hp:PinOK c pin){s:Operand}(ho:o.op=.call ⟨.builtin .append,args,#[t,t]⟩)(ha:args.toList=[s,x])(h:zpm P c t s x o.dst K pf)
(hk:∀pf' fr' E',K pf'→RelP c.nt pin E0 E' pf' fr'→K' fr' E'.H):aop P c.nt o K' fr E.H:=by
 unfold zpm at h;split at h
 ·rename_i z hz;obtain⟨e,g,es,b,zc,he,ht,hz1,hz2,hz3,rfl⟩:=ziw hz;unfold zqQ at h;split at h
  ·rename_i y pf1 htk;split at h
   ·rename_i rows hbs;obtain⟨sv,fr1,H1,E1,m1,e1,r1,f1⟩:=zdw r (fl:=[]) (fun k x v h=>by simp at h) htk;have hfl:PR E1 (some (c.nt,[(0,0)])) y sv:=f1 0 y sv rfl
    have hy:y=.sl true es rows:=by
     unfold bsR at hbs;split at hbs
     ·split at hbs
      ·rename_i hh;simp only[Option.some.injEq]at hbs;subst hbs;simp only at hh;rw[hh]
      ·cases hbs
     ·cases hbs
    subst hy;unfold zqG at h;split at h
    ·rename_i rows2 pf2 hsr;obtain⟨hsol,⟨hb1,hb2⟩,hput⟩:=h;simp only at hb1 hb2 hput hsr;obtain⟨new,T,f,q1,q2,q3,q4⟩:=zhE (P:=P) r1 (R:=(c.nt,[(0,0)])) (n:=rows.length) rfl he ht hz2 hsr
     have hnsol:new.all zeb=true:=by
      rw[List.all_eq_true];intro w hw;obtain⟨q,hq⟩:=List.getElem?_of_mem hw;have hlt:q<rows2.length*es:=by have:=(List.getElem?_eq_some_iff.1 hq).1;rw[q2.len]at this;exact this
      have hpos:0<es:=by omega
      have hi:q/es<rows2.length:=Nat.div_lt_of_lt_mul (by rw[Nat.mul_comm];exact hlt);have hj:q%es<es:=Nat.mod_lt _ hpos;have hr:=q2.rl _ (List.getElem_mem hi)
      have hx:=q2.el (q/es) rows2[q/es] (q%es) (rows2[q/es][q%es]'(by omega)) w (List.getElem?_eq_getElem hi) (List.getElem?_eq_getElem _) (by
       rw[show q/es*es+q%es=q by rw[Nat.mul_comm];exact Nat.div_add_mod q es];exact hq)
      have h1:=List.all_eq_true.1 hsol _ (List.getElem_mem hi);exact zlU hx (List.all_eq_true.1 h1 _ (List.getElem_mem _))
     obtain⟨v,E2,a1,a2,a3,a4,a5⟩:=zoI (P:=P) r1.ok he ht hz1 hz2 hfl q2 hnsol q3 hb1 hb2
     have r2:=q4 E2 a2 a3 fun a h1 h2=>a5 a h1 fun q e=>by
      have:=congrArg Prod.fst e;simp only at this;omega
     have:=za6 r2 hp a4 hput hk;unfold aop;rw[ho];simp only[ha,m1];rw[if_pos trivial];rw[←e1];simp only[q1,a1];exact this
    ·cases h
   ·cases h
  ·cases h
 ·cases h
theorem zAW(r:RelP nt pin E0 E pf fr){z q:Nat}{y:PV}{pf1:PFr}(h:zbg z pf (.tmp q)=some (y,pf1))(hv:vrF (pf q)=true):∃v,fr q=.v v:=by
 have hf:=r.f q;simp only[zbg]at h;cases hpt:pf q with
 |v x=>
  rw[hpt]at h hf;simp only[zeO,zj2]at h;split at h
  ·cases h
  ·rename_i hj;obtain⟨v,h1,_⟩:=zcl hf (ze5 (by simpa using hj));exact⟨v,h1⟩
 |rf s p=>
  rw[hpt]at hf;obtain⟨v,h1,_⟩:=hf;exact⟨v,h1⟩
 |_=>rw[hpt]at hv;cases hv
theorem zsS(r:RelP c.nt pin E0 E pf fr)(hp:PinOK c pin){t':TypeId}{s:Operand}(ho:o.op=.call ⟨.builtin .append,args,#[t,t']⟩)(ha:args.toList=[s,x])(h:zos P c t t' s x o.dst K pf)
(hk:∀pf' fr' E',K pf'→RelP c.nt pin E0 E' pf' fr'→K' fr' E'.H):c.hp≠[]∧ahp P c.nt o K' fr E.H:=by
 unfold zos at h;split at h
 ·rename_i d z n q hd hz hx;obtain⟨e,g,es,b,zc,he,ht,hz1,hz2,hz3,rfl⟩:=ziw hz;obtain⟨⟨k1,k2,k3,k4,k5,k6⟩,h⟩:=h;refine⟨k1,?_⟩;unfold zuX at h;split at h
  ·rename_i y pf1 htk;split at h
   ·rename_i rows hbs;obtain⟨⟨hsol,hb1,hb2⟩,hput⟩:=h;obtain⟨w,hw⟩:=zAW r htk k3;obtain⟨sv,fr1,H1,E1,m1,e1,r1,f1⟩:=zdw r (fl:=[]) (fun k x v h=>by simp at h) htk
    have hm:sv=w∧fr1=fr∧H1=E.H:=by
     simp only[mat,hw,Option.some.injEq,Prod.mk.injEq]at m1;exact⟨m1.1.symm,m1.2.1.symm,m1.2.2.symm⟩
    obtain⟨rfl,rfl,rfl⟩:=hm;have hfl:PR E1 (some (c.nt,[(0,0)])) y sv:=f1 0 y sv rfl
    have hy:y=.sl true es rows:=by
     unfold bsR at hbs;split at hbs
     ·split at hbs
      ·rename_i hh;simp only[Option.some.injEq]at hbs;subst hbs;simp only at hh;rw[hh]
      ·cases hbs
     ·cases hbs
    subst hy;simp only at hsol hb1 hb2 hput;have hlen:(List.replicate n.toNat (uz (nzB c (some d)) ((zz P e zc).map dz))).length=n.toNat:=by simp
    have hrep:∀l,l∈List.replicate n.toNat zc→l.length=es:=fun l hl=>by rw[(List.mem_replicate.1 hl).2];exact hz1
    have q2:SrcOK E1 es (List.replicate n.toNat (uz (nzB c (some d)) ((zz P e zc).map dz))) (List.replicate n.toNat zc).flatten none (fun _=>none) rows.length (c.nt,[(0,0)]):=by
     refine⟨by rw[ziB hrep];simp,fun l hl=>by rw[(List.mem_replicate.1 hl).2,zlV];exact hz1,fun i l j x y g1 g2 g3=>?_,fun a h=>by cases h⟩;have hi:i<n.toNat:=by have:=(List.getElem?_eq_some_iff.1 g1).1;simpa using this
     have hrw:=(List.mem_replicate.1 (List.mem_of_getElem? g1)).2;subst hrw;have hj:j<es:=by have:=(List.getElem?_eq_some_iff.1 g2).1;rw[zlV]at this;omega
     rw[zlr hrep (e:=zc) (by rw[List.getElem?_replicate,if_pos (by omega)]) hj]at g3;exact zlt hz3 (fun _=>none) j x y g2 g3
    have hnsol:(List.replicate n.toNat zc).flatten.all zeb=true:=by
     rw[List.all_eq_true];intro w hw;obtain⟨q,hq⟩:=List.getElem?_of_mem hw;have hlt:q<n.toNat*es:=by have:=(List.getElem?_eq_some_iff.1 hq).1;rw[ziB hrep]at this;simpa using this
     have hpos:0<es:=by omega
     have hi:q/es<n.toNat:=Nat.div_lt_of_lt_mul (by rw[Nat.mul_comm];exact hlt);have hj:q%es<es:=Nat.mod_lt _ hpos;have hzl:(uz (nzB c (some d)) ((zz P e zc).map dz)).length=es:=by rw[zlV];exact hz1
     have hx:=q2.el (q/es) (uz (nzB c (some d)) ((zz P e zc).map dz)) (q%es) ((uz (nzB c (some d)) ((zz P e zc).map dz))[q%es]'(by omega)) w (by rw[List.getElem?_replicate,if_pos hi]) (List.getElem?_eq_getElem _) (by
      rw[show q/es*es+q%es=q by rw[Nat.mul_comm];exact Nat.div_add_mod q es];exact hq)
     have h1:=List.all_eq_true.1 hsol _ (List.mem_singleton.2 rfl);exact zlU hx (List.all_eq_true.1 h1 _ (List.getElem_mem _))
    obtain⟨v,E2,a1,a2,a3,a4,a5⟩:=zoI (P:=P) r1.ok he ht hz1 hz2 hfl q2 hnsol (fun _=>rfl) (by rw[hlen];exact hb1) (by rw[hlen];exact hb2)
    have r2:=r1.env a2 a3 fun s hs=>a5 (s,[]) (fun _=>rfl) fun q e=>by
     have:=congrArg Prod.fst e;simp only at this;omega
    have hfin:=za6 r2 hp a4 hput hk;rw[hlen,e1]at a1
    have hd':d<c.nt∧K' (fr1.put d (.v v)) E2.H:=by
     simp only[zar]at hfin;split at hfin
     ·rename_i hlt;exact⟨hlt,hfin⟩
     ·cases hfin
    unfold ahp;rw[ho,hd];simp only[ha,he,zcS r hx,ht];refine .inr ⟨⟨hd'.1,k2,k4,k5,k6,hz1,hz2,hz3⟩,sv,v,E2.H,by simp[rdv,hw],a1,hd'.2⟩
   ·cases h
  ·cases h
 ·cases h
theorem zun(r:RelP c.nt pin E0 E pf fr){ts:Array TypeId}(ho:o.op=.call ⟨.builtin .clear,args,ts⟩)(h:zvg P c o.dst K pf args.toList ts)
(hk:∀pf' fr' E',K pf'→RelP c.nt pin E0 E' pf' fr'→K' fr' E'.H):c.hp≠[]∧ahp P c.nt o K' fr E.H:=by
 unfold zvg at h;split at h
 ·rename_i q t ha;obtain⟨hd,h⟩:=h;unfold zuo at h;split at h
  ·rename_i pf' hpf;obtain⟨hhp,hK⟩:=h;refine⟨hhp,?_⟩;have hfq:=r.f q;unfold zud at hpf;split at hpf
   ·rename_i s lo hi hq;rw[hq]at hfq;split at hpf
    ·rename_i by_ kk nn rows hz hs;split at hpf
     ·rename_i hlt;simp only[Option.some.injEq]at hpf;subst hpf;obtain⟨e,g,es,b,z,he,ht,hz1,hz2,hz3,hz4⟩:=ziw hz;simp only[Prod.mk.injEq]at hz4;obtain⟨rfl,rfl,hz4⟩:=hz4;have hfs:=r.f s;rw[hs]at hfs;obtain⟨v,v1,v2⟩:=zcl hfs (by simp);have hsn:s<c.nt:=r.rt q s (by rw[hq];rfl);cases v2 with
      |sl0 o' es'=>simp at hlt;omega
      | @slO _ id off _ n cc k _ how hG hb hrw hn hc hm hr hl hh=>
       obtain⟨⟨_,rfl⟩,hl⟩:=hl
       obtain⟨w,rfl⟩:∃w,z=[w]:=by
        cases z with
        |nil=>simp at hz1
        |cons a l=>cases l with
         |nil=>exact⟨a,rfl⟩
         |cons b l=>simp at hz1
       have hw:w=.int kk nn:=by
        have:=zlt (P:=P) (E:=E) (b:=false) (t:=e) (z:=[w]) hz3 (fun _=>none) 0 (.int kk nn) w (by simp only[uz,Bool.false_eq_true,if_false,←hz4];rfl) rfl;cases this;rfl
       subst hw
       have hfl:(List.replicate (hi-lo) [Value.int kk nn]).flatten=List.replicate (hi-lo) (Value.int kk nn):=by
        generalize hi-lo=m;induction m with
        |zero=>rfl
        |succ m ih=>simp[List.replicate_succ,ih]
       have hfr:fr q=.v (.slice (some ⟨id,lo,some 1⟩) (hi-lo) (cc-lo)):=by
        rcases hfq with⟨w1,_⟩|⟨id',off',es',n',c',w1,_,_,w2⟩
        ·rcases w1 with⟨r0,a1,a2⟩|⟨c0,j',p',y',a1,_⟩
         ·rw[v1]at a1;cases a1;cases a2
         ·rw[v1]at a1;cases a1
        ·rcases w1 with⟨r0,a1,a2⟩|⟨c0,j',p',y',a1,_⟩
         ·rw[v1]at a1;cases a1;cases a2;simpa using w2
         ·rw[v1]at a1;cases a1
       have hne:List.replicate (hi-lo) (Value.int kk nn)≠[]:=fun e0=>by
        have:=congrArg List.length e0;simp at this;omega
       obtain⟨cs,hcs⟩:=zhC (cs:=k.cells) (n:=lo) hne (by simp;omega);obtain⟨b1,b2,b3,b4⟩:=zhF hne hcs
       let E1:Env:={E with H:=E.H.set id (some ⟨true,cs⟩)}
       have hHne:∀i,i≠id→E1.H.b i=E.H.b i:=fun i hid=>by simp[E1,AH.set,hid]
       have hHeq:E1.H.b id=some ⟨true,cs⟩:=by simp[E1,AH.set]
       have hg1:GK E E1:=fun i hGi=>⟨hGi,fun k' hk'=>by
        have:i≠id:=fun e=>hG (by rw[←e];exact hGi)
        exact⟨k',(hHne i this).trans hk',rfl⟩⟩
       have hmv:∀a:Nat×zad,a≠(s,[])→(∀r,(a.1,a.2++r)≠(s,[]))→MoveOK E E1 (some a) (some a):=fun a _ ha i r g1 g2=>by
        refine⟨g1,g2,hHne i fun e=>?_⟩;subst e;rw[how]at g1;exact ha r (Option.some.inj g1).symm
       have hst:ahp P c.nt o K' fr E.H=(((hi-lo≠0∧hi-lo≤cc-lo∧(1=1)∧k.rw=true∧[Value.int kk nn].length=1∧1≠0∧[Value.int kk nn].all zai=true∧[Value.int kk nn].all zeb=true)∧∃cs,zbQ k.cells lo (List.replicate (hi-lo) [Value.int kk nn]).flatten=some cs∧K' fr (E.H.set id (some ⟨true,cs⟩)))):=by
        unfold ahp;rw[ho,hd];simp only[ha,he,rdv,hfr,ht,hb]
       rw[hst,hfl];refine⟨⟨by omega,by omega,rfl,hrw,rfl,by decide,hz3,rfl⟩,cs,hcs,?_⟩;refine hk _ fr E1 hK ?_
       refine r.chg hsn hg1 (fun t' ht' hts=>hmv (t',[]) (fun e=>hts (congrArg Prod.fst e)) fun r e=>hts (congrArg Prod.fst e)) (fun L hL=>⟨fun i p g1 g2 g3=>⟨g1,g2⟩,fun i p g1 g2 g3=>by omega⟩) (fun _ _=>rfl) (fun _=>.inl rfl)
        ⟨Nat.le_refl _,hg1,fun i _ hn=>⟨hn,hHne i (fun e=>by rw[e,how]at hn;cases hn),fun h=>h⟩⟩ (fun i k' hk'=>?_) (fun i hid=>r.fresh i hid) (fun _ _ h1 h2=>.inl (by rw[h1]at h2;cases h2;rfl)) ?_ rfl r.pin
       ·by_cases e:i=id
        ·subst e;exact r.wf i k hb
        ·rw[hHne i e]at hk';exact r.wf i k' hk'
       ·have hlr:(rows.take lo).length=lo:=by rw[List.length_take];omega
        refine ze2 v1 (.slO how hG hHeq rfl (by simp;omega) hc hm (fun r' hr'=>?_) ⟨⟨by decide,rfl⟩,by rw[b1];exact hl⟩ fun i r' j x y g1 g2 g3=>?_)
        ·rcases List.mem_append.1 hr' with h|h
         ·exact hr r' (List.mem_of_mem_take h)
         ·rcases List.mem_append.1 h with h|h
          ·rw[(List.mem_replicate.1 h).2];rfl
          ·exact hr r' (List.mem_of_mem_drop h)
        ·have old:rows[i]? =some r'→¬(lo≤i∧i<hi)→PR E1 (some (chl (s,[]) i j)) x y:=fun h1 h2=>by
          have hj:j=0:=by
           have:=hr r' (List.mem_of_getElem? h1);have:=(List.getElem?_eq_some_iff.1 g2).1;omega
          subst hj;rw[b3 _ (by simp;omega)]at g3;exact(hh i r' 0 x y h1 g2 g3).move hg1 (hmv _ (by simp[chl]) fun r e=>by simp[chl]at e)
         rcases Nat.lt_or_ge i lo with hi1|hi1
         ·rw[List.getElem?_append_left (by omega),List.getElem?_take,if_pos hi1]at g1;exact old g1 (by omega)
         ·rw[List.getElem?_append_right (by omega),hlr]at g1;rcases Nat.lt_or_ge i hi with hi2|hi2
          ·rw[List.getElem?_append_left (by simp;omega),List.getElem?_replicate,if_pos (by omega)]at g1;cases g1;cases j with
           |succ j=>simp at g2
           |zero=>
            simp at g2;subst g2;have:=b4 (i-lo) (by simp;omega);rw[show lo+(i-lo)=0+i*1+0 by omega,g3,List.getElem?_replicate,if_pos (by omega)]at this;cases this;exact .int kk nn
          ·rw[List.getElem?_append_right (by simp;omega),List.getElem?_drop]at g1;simp only[List.length_replicate]at g1;rw[show hi+(i-lo-(hi-lo))=i by omega]at g1;exact old g1 (by omega)
     ·cases hpf
    ·cases hpf
   ·cases hpf
  ·cases h
 ·cases h
end
end Go.Pm
