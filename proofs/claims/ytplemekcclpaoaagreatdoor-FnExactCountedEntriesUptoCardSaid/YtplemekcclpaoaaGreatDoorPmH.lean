import Derived.Test.YtplemekcclpaoaaGreatDoorPmG
namespace Go.Pm
open Go.Am
structure Cfg where
 nt:Nat
 io:List Nat
 fz:List Nat
 hp:List Nat
def zrl(pf:PFr)(s:Nat)(p:zad)(i j:Nat):Option PV→Option (PF×PFr)
 |some (.agg xs)=>if zaC (.agg xs)=true then(zeo pf s p i j (xs.map drop)).map fun pf'=>(.v (.agg (xs.map drop)),pf')else some (.v (.agg xs),pf)
 |_=>none
def zrX(pf:PFr)(s:Nat)(p:zad):Option PV→Option (PF×PFr)
 |some x=>if isJ x=true then none else(zck pf s p (drop x)).map fun pf'=>(.v (drop x),pf')
 |none=>none
def zka(pf:PFr):PF→Option (PF×PFr)
 | .v x=>some (.v (drop x),pf)
 | .rf s p=>zrX pf s p (zaz pf s p)
 | .ra s p i j n=>zrl pf s p i j (za9 pf (.ra s p i j n))
 |y=>some (y,pf)
def pfz(K:PFr→Prop)(d:Nat):Option (PF×PFr)→Prop
 |some r=>K (r.2.put d r.1)
 |none=>False
def ckd(c:Cfg)(d:Nat)(y:PF):Bool:=decide (d<c.nt)&& !c.io.contains d&& !(zam y==some d)
def zbr(c:Cfg)(K:PFr→Prop)(d:Option Tmp)(y:PF)(pf:PFr):Prop:=
 match d with
 |none=>K pf
 |some d=>ckd c d y=true∧if c.fz.contains d=true then pfz K d (zka pf y)else K (pf.put d y)
def zlh:List PV→Option (List Value)
 |[]=>some []
 | .int k n::r=>(zlh r).map fun l=>.int k n::l
 |_=>none
def toS:PV→Option Value
 | .agg xs=>(zlh xs).map fun l=>.agg l.toArray
 | .bool b=>some (.bool b)
 | .int k n=>some (.int k n)
 | .str s=>some (.string s)
 |_=>none
def zeQ:Value→Option PV
 | .bool b=>some (.bool b)
 | .int k n=>some (.int k n)
 | .string s=>some (.str s)
 |_=>none
def zpx:PF→Option Value
 | .v x=>toS x
 |_=>none
def rdS(pf:PFr):Operand→Option Value
 | .tmp t=>zpx (pf t)
 | .const k=>if zai k=true then toS (zgF 0 k)else none
 |_=>none
def zh5(pf:PFr):List Operand→Option (List Value)
 |[]=>some []
 |x::xs=>(rdS pf x).bind fun v=>(zh5 pf xs).map fun vs=>v::vs
def zeP(P:Program)(c:Cfg)(o:Oper)(K:PFr→Prop)(pf:PFr):Prop:=
 match(zaJ o.op).bind (zh5 pf)with
 |some vs=>match(zaP P o.op vs).bind zeQ with
  |some y=>zbr c K o.dst (.v y) pf
  |none=>False
 |none=>False
inductive AD where
 |pl (s:Nat) (p:zad) (i j:Nat)
 |fz (row:List PV)
def adV(t:Nat):PV→Option AD
 | .bx _=>some (.pl t [] 0 0)
 | .fp row=>some (.fz row)
 |_=>none
def adR(s:Nat)(p:zad):PV→Option AD
 | .bx _=>some (.pl s p 0 0)
 | .fp row=>some (.fz row)
 |_=>none
def adF(pf:PFr)(t:Nat):PF→Option AD
 | .bl _=>some (.pl t [] 0 0)
 | .v x=>adV t x
 | .pt s p i j=>some (.pl s p i j)
 | .rf s p=>(zaz pf s p).bind (adR s p)
 |_=>none
def adr(pf:PFr):Operand→Option AD
 | .tmp t=>adF pf t (pf t)
 |_=>none
def zj9:AD→PF
 | .pl s p i j=>.pt s p i j
 | .fz row=>.v (.fp row)
def zi8(o:Nat):AD→Option AD
 | .pl s p i j=>some (.pl s p i (j+o))
 | .fz row=>if o≤row.length then some (.fz (row.drop o))else none
def zoj(pf:PFr)(s:Nat)(p:zad)(i:Nat):Option (List PV):=(zaz pf s p).bind (zfR i)
def zkT(tz:Bool×Nat)(s:Nat)(p:zad)(i j:Nat)(row:List PV):Option PF:=
 match tz with
 |(true,sz)=>if j+sz≤row.length then some (if((row.drop j).take sz).any zaC=true then .ra s p i j sz else .v (.agg ((row.drop j).take sz)))else none
 |(false,_)=>match row.drop j with
  |x::_=>some (if zaC x=true then .rf s (p++[(i,j)])else .v x)
  |[]=>none
def zpD(tz:Bool×Nat)(row:List PV):Option PF:=
 match tz with
 |(true,sz)=>if sz≤row.length then some (.v (.agg (row.take sz)))else none
 |(false,_)=>match row with
  |x::_=>some (.v x)
  |[]=>none
def ldA(tz:Bool×Nat)(pf:PFr):AD→Option PF
 | .pl s p i j=>(zoj pf s p i).bind (zkT tz s p i j)
 | .fz row=>zpD tz row
section
variable {nt:Nat}{pin:List (Nat×Value)}{E0 E E':Env}{pf:PFr}{fr fr':FR}{c:Cfg}{P:Program}
structure PinOK (c:Cfg) (pin:List (Nat×Value)):Prop where
 h:∀k v,(k,v)∈pin→k∈c.io
variable{K:PFr→Prop}{K':FR→AH→Prop}{ad:AD}{d s:Nat}{fv:FV}{l:Lo}{p:zad}{row:List PV}{v:Value}{x:PV}{y:PF}
theorem zlm(h:ckd c d y=true):d<c.nt∧d∉c.io∧zam y≠some d:=by
 simp only[ckd,Bool.and_eq_true,decide_eq_true_eq,Bool.not_eq_true',List.contains_eq_mem,decide_eq_false_iff_not,beq_eq_false_iff_ne,ne_eq]at h;exact⟨h.1.1,h.1.2,h.2⟩
theorem ztP{x:Option (PF×PFr)}(h:pfz K d x):∃r,x=some r∧K (r.2.put d r.1):=by
 cases x with
 |none=>cases h
 |some r=>exact⟨r,rfl,h⟩
theorem EnvOK.rl(h:EnvOK E){f:Nat×zad→Option (Nat×zad)}:EnvOK (E.rl f):=⟨h.wf,fun id hid=>by
 obtain⟨h1,h2⟩:=h.fresh id hid
 exact⟨by simp[Env.rl,h1],h2⟩⟩
theorem EnvOK.fz(h:EnvOK E){a:Nat×zad}:EnvOK (E.fz a):=⟨h.wf,fun id hid=>by
 obtain⟨h1,h2⟩:=h.fresh id hid;refine⟨h1,?_⟩;rintro(h3|⟨r,h3⟩)
 ·exact h2 h3
 ·rw[h1]at h3;cases h3⟩
theorem RelP.env(r:RelP nt pin E0 E pf fr)(hok:EnvOK E')(hsn:Since E E')(hm:∀s,s<nt→MoveOK E E' (some (s,[])) (some (s,[]))):RelP nt pin E0 E' pf fr:=by
 refine⟨r.since.trans hsn,hok.wf,hok.fresh,fun t=>?_,r.hi,r.rt,r.pin⟩;rcases Nat.lt_or_ge t nt with ht|ht
 ·exact(r.f t).stay hsn.g (hm t ht) rfl fun s hs=>⟨rfl,KL.of_move (hm s (r.rt t s hs))⟩
 ·rw[r.hi t ht];exact zfY
theorem zqf(r:RelP c.nt pin E0 E pf fr)(hp:PinOK c pin)(hx:PR E (some (c.nt,[(0,0)])) x v){d:Option Tmp}(h:zbr c K d (.v x) pf)
(hk:∀pf' fr' E',K pf'→RelP c.nt pin E0 E' pf' fr'→E'.H=E.H→K' fr' E'.H):zar c.nt K' d (.v v) fr E.H:=by
 cases d with
 |none=>exact hk pf fr E h r rfl
 |some d=>
  obtain⟨h1,h2⟩:=h;obtain⟨c1,c2,c3⟩:=zlm h1;simp only[zar,if_pos c1];have hpin:∀w,(d,w)∉pin:=fun w hw=>c2 (hp.h d w hw)
  split at h2
  ·
   have h2:K (pf.put d (.v (drop x))):=h2;have hd:PR (E.fz (c.nt,[(0,0)])) none (drop x) v:=hx.freeze zgs zqU;refine hk _ _ (E.fz (c.nt,[(0,0)])) h2 ?_ rfl;exact r.set c1 hpin zgs (fun s hs _=>zhN (by show s≠c.nt;omega)) ziC r.ok.fz.wf r.ok.fz.fresh (ze2 (by simp[FR.put]) hd.up) (fun s hs=>by cases hs)
  ·refine hk _ _ (E.rl (rlW (c.nt,[(0,0)]) (d,[]))) h2 ?_ rfl;exact r.set c1 hpin zba (fun s hs _=>zbN fun q=>zdq (by show s≠c.nt;omega)) zcM r.ok.rl.wf r.ok.rl.fresh (ze2 (by simp[FR.put]) (hx.move zba (zcJ fun q=>zfq _ _ q))) (fun s hs=>by cases hs)
theorem za6(r:RelP c.nt pin E0 E pf fr)(hp:PinOK c pin)(hx:PR E (some (c.nt,[(0,0)])) x v){d:Option Tmp}(h:zbr c K d (.v x) pf)
(hk:∀pf' fr' E',K pf'→RelP c.nt pin E0 E' pf' fr'→K' fr' E'.H):zar c.nt K' d (.v v) fr E.H:=zqf r hp hx h fun pf' fr' E' a b _=>hk pf' fr' E' a b
theorem Wk.frame(h:Wk E fr s p v)(hd:s≠d):Wk E (fr.put d fv) s p v:=by
 have e:(fr.put d fv) s=fr s:=by simp[FR.put,hd]
 rcases h with⟨r,h1,h2⟩|⟨cells,j,p',y,h1,h2⟩
 ·exact .inl ⟨r,e.trans h1,h2⟩
 ·exact .inr ⟨cells,j,p',y,e.trans h1,h2⟩
def AlV(E:Env)(fr:FR)(y:PF)(fv:FV):Prop:=
 match y with
 | .pt s p i j=>PtV E fr s p i j fv
 | .rf s p=>∃v,fv=.v v∧Wk E fr s p v
 | .rv s p lo hi=>(Wk E fr s p (.slice none 0 0)∧fv=.v (.slice none 0 0)∧lo=0∧hi=0)∨
  ∃id off es n c,Wk E fr s p (.slice (some ⟨id,off,some es⟩) n c)∧lo≤hi∧hi≤n∧fv=.v (.slice (some ⟨id,off+lo*es,some es⟩) (hi-lo) (c-lo))
 | .ra s p i j n=>∃vs,fv=.v (.agg vs)∧(vs.toList.length=n∧n≠0)∧∀q y,vs.toList[q]? =some y→Wk E fr s (p++[(i,j+q)]) y
 | .as false s p i j n=>∃vs:List Value,fv=.ls n 1 vs∧(vs.length=n∧n≠0)∧∀q y,vs[q]? =some y→Wk E fr s (p++[(i,j+q)]) y
 | .as true s p i j _=>∃id off k v,fv=.v (.pointer (some ⟨id,off,none⟩))∧E.G id∧E.H.b id=some k∧k.cells[off]? =some v∧Wk E fr s (p++[(i,j)]) v
 | .cl s g us=>ClV E fr s g us fv
 |_=>False
theorem zAF{t:Nat}(ha:zam y≠none):RPF E y fr t↔AlV E fr y (fr t):=by
 cases y with
 |v x=>simp[zam]at ha
 |skip=>simp[zam]at ha
 |ls _ _=>simp[zam]at ha
 |bl _=>simp[zam]at ha
 |pt s p i j=>exact Iff.rfl
 |rf s p=>exact Iff.rfl
 |rv s p lo hi=>exact Iff.rfl
 |ra s p i j n=>exact Iff.rfl
 |as b s p i j n=>cases b<;>exact Iff.rfl
 |cl s g us=>exact Iff.rfl
theorem AlV.frame{fx:FV}(h:AlV E fr y fv)(hd:zam y≠some d):AlV E (fr.put d fx) y fv:=by
 have wk:∀{s:Nat}{p:zad}{v:Value},zam y=some s→Wk E fr s p v→Wk E (fr.put d fx) s p v:=fun hs hw=>hw.frame fun e=>hd (by rw[hs,e])
 cases y with
 |pt s p i j=>
  rcases h with⟨cells,h1,h2⟩|⟨v0,id,o,h1,h2⟩
  ·have:s≠d:=fun e=>hd (by rw[e];rfl)
   exact .inl ⟨cells,by simp[FR.put,this,h1],h2⟩
  ·exact .inr ⟨v0,id,o,wk rfl h1,h2⟩
 |rf s p=>obtain⟨v,h1,h2⟩:=h;exact⟨v,h1,wk rfl h2⟩
 |rv s p lo hi=>
  rcases h with⟨h1,h2⟩|⟨id,off,es,n,c,h1,h2⟩
  ·exact .inl ⟨wk rfl h1,h2⟩
  ·exact .inr ⟨id,off,es,n,c,wk rfl h1,h2⟩
 |ra s p i j n=>obtain⟨vs,h1,h2,h3⟩:=h;exact⟨vs,h1,h2,fun q y hq=>wk rfl (h3 q y hq)⟩
 |as b s p i j n=>
  cases b with
  |false=>obtain⟨vs,h1,h2,h3⟩:=h;exact⟨vs,h1,h2,fun q y hq=>wk rfl (h3 q y hq)⟩
  |true=>obtain⟨id,off,k,v,h1,hG,hb,hc,hw⟩:=h;exact⟨id,off,k,v,h1,hG,hb,hc,wk rfl hw⟩
 |cl s g us=>obtain⟨v,vs,h1,h2,h3⟩:=h;exact⟨v,vs,h1,wk rfl h2,h3⟩
 |_=>exact h
theorem zu2(r:RelP nt pin E0 E pf fr){i j n:Nat}{y':PF}{pf':PFr}{vs:Array Value}(hs:s<nt)(hl:vs.toList.length=n)(hw:∀q y,vs.toList[q]? =some y→Wk E fr s (p++[(i,j+q)]) y)
(hj:zrl pf s p i j (za9 pf (.ra s p i j n))=some (y',pf')):∃E' x,y'=.v x∧E'.H=E.H∧EnvOK E'∧RelP nt pin E0 E' pf' fr∧PR E' none x (.agg vs):=by
 unfold zrl at hj;split at hj
 ·rename_i o xs hcut;simp only[za9]at hcut;obtain⟨row,hrow',hraw⟩:=Option.bind_eq_some_iff.1 hcut;unfold zi7 at hraw;split at hraw
  ·rename_i hle;simp only[Option.some.injEq,PV.agg.injEq]at hraw;have hxl:xs.length=n:=by rw[←hraw];simp;omega
   have hxs:∀q x,xs[q]? =some x→zaz pf s (p++[(i,j+q)])=some x:=by
    intro q x hq;rw[zpT hrow'];rw[←hraw,List.getElem?_take]at hq;split at hq
    ·rw[List.getElem?_drop]at hq;exact hq
    ·cases hq
   have hpr:∀q x v,xs[q]? =some x→vs.toList[q]? =some v→PR E (some (s,p++[(i,j+q)])) x v:=by
    intro q x v hq hv;by_cases hx:x=.junk
    ·subst hx;exact .junk v
    ·obtain⟨v',w1,w2⟩:=r.at (hxs q x hq) hx (.inl zog);rw[w1.same (hw q v hv)]at w2;exact w2
   split at hj
   ·rename_i ho;simp only[Option.map_eq_some_iff,Prod.mk.injEq]at hj;obtain⟨pf1,h1,rfl,rfl⟩:=hj;have hne:xs≠[]:=by rintro rfl;simp[zhx]at ho
    let S:Nat×zad→Prop:=fun x=>∃q r,q<n∧x=(s,p++(i,j+q)::r)
    let E1:Env:={E with G:=fun id=>E.G id∨∃x,E.ow id=some x∧S x}
    have hg:GK E E1:=fun _ h=>⟨.inl h,fun k hk=>⟨k,hk,rfl⟩⟩
    have hsn:Since E E1:=⟨Nat.le_refl _,hg,fun id _ h=>⟨h,rfl,by
     rintro(h3|⟨x,h3,_⟩)
     ·exact h3
     ·rw[h]at h3;cases h3⟩⟩
    have hok:EnvOK E1:=⟨r.wf,fun id hid=>by
     obtain⟨h1,h2⟩:=r.fresh id hid;refine⟨h1,?_⟩;rintro(h3|⟨x,h3,_⟩)
     ·exact h2 h3
     ·rw[h1]at h3;cases h3⟩
    have hcell:∀q x v,xs[q]? =some x→vs.toList[q]? =some v→PR E1 none (drop x) v:=fun q x v hq hv=>by
     have hqn:q<n:=by have:=(List.getElem?_eq_some_iff.1 hq).1;omega
     refine(hpr q x v hq hv).freeze hg fun id r h1 _=>⟨.inr ⟨_,h1,q,r,hqn,by simp⟩,fun k hk=>⟨k,hk,rfl⟩⟩
    refine⟨E1,_,rfl,rfl,hok,?_,.agg (by simp;rw[hxl];simpa using hl.symm) fun q x v hq hv=>?_⟩
    ·refine r.setCs hs (by simpa using hne) h1 rfl hsn hg (fun t _ hts id q h1 h2=>⟨h1,?_,rfl⟩) hok.fresh (fun id q g1 g2 g3=>⟨g1,?_⟩) fun t z v g1 g2=>?_
     ·rintro(h3|⟨x,h3,q',r',hq',rfl⟩)
      ·exact h2 h3
      ·rw[h1,Option.some.injEq,Prod.mk.injEq]at h3;exact hts h3.1
     ·rintro(h3|⟨x,h3,q',r',hq',rfl⟩)
      ·exact g2 h3
      ·rw[g1,Option.some.injEq,Prod.mk.injEq]at h3;refine g3 (j+q') r' h3.2 ⟨by omega,?_⟩;simp;omega
     ·obtain⟨x,hq,rfl⟩:=zdZ g1;have htl:t<vs.toList.length:=by have:=(List.getElem?_eq_some_iff.1 hq).1;omega
      have hv:=List.getElem?_eq_getElem htl;have:=(hw t _ hv).same g2;rw[this]at hv;exact(hcell t x v hq hv).up
    ·obtain⟨x0,hx0,rfl⟩:=zdZ hq;exact hcell q x0 v hx0 hv
   ·rename_i ho;cases hj;have ho':zaC (.agg xs)=false:=by simpa using ho
    rw[zhx,List.any_eq_false]at ho';refine⟨E,_,rfl,rfl,r.ok,r,.agg (by rw[hxl,hl]) fun q x v hq hv=>(hpr q x v hq hv).free (by simpa using ho' x (List.mem_of_getElem? hq))⟩
  ·cases hraw
 ·cases hj
theorem zb1(r:RelP c.nt pin E0 E pf fr)(hp:PinOK c pin){s0:Nat}(hs0:zam y=some s0)(hs:s0<c.nt)(hx:AlV E fr y fv){d:Option Tmp}(h:zbr c K d y pf)
(hk:∀pf' fr' E',K pf'→RelP c.nt pin E0 E' pf' fr'→K' fr' E'.H):zar c.nt K' d fv fr E.H:=by
 cases d with
 |none=>exact hk pf fr E h r
 |some d=>
  obtain⟨h1,h2⟩:=h;obtain⟨c1,c2,c3⟩:=zlm h1;simp only[zar,if_pos c1];have hpin:∀w,(d,w)∉pin:=fun w hw=>c2 (hp.h d w hw)
  have plain:K (pf.put d y)→K' (fr.put d fv) E.H:=fun h2=>by
   refine hk _ _ E h2 (r.set c1 hpin (GK.refl E) (fun s _ _=>.refl _) (Since.refl E) r.wf r.fresh ?_ (fun s hs'=>by rw[hs0]at hs';cases hs';exact hs));rw[zAF (by rw[hs0];simp)];have:=hx.frame (fx:=fv) c3;simpa[FR.put]using this
  split at h2
  ·cases y with
   |rf s p=>
    obtain⟨v,rfl,w⟩:=hx;obtain⟨q,h3,h4⟩:=ztP h2;simp only[zka,zrX]at h3;split at h3
    ·rename_i x hgx;split at h3
     ·cases h3
     ·rename_i hj;simp only[Option.map_eq_some_iff]at h3;obtain⟨pf1,k1,rfl⟩:=h3;simp only[zam,Option.some.injEq]at hs0;subst hs0;obtain⟨v',a1,a2,a3⟩:=r.freezeAt hs hgx (ze5 (by simpa using hj)) (zbc r w hgx) k1;have:=a1.same w;subst this;exact hk _ _ (E.fz (s,p)) h4 (a2.set c1 hpin (GK.refl _) (fun s _ _=>.refl _) (Since.refl _) a2.wf a2.fresh (ze2 (by simp[FR.put]) a3.up) (fun s hs=>by cases hs))
    ·cases h3
   |ra s p i j n=>
    obtain⟨vs,rfl,w1,w2⟩:=hx;obtain⟨⟨y',pf1⟩,h3,h4⟩:=ztP h2;simp only[zam,Option.some.injEq]at hs0;subst hs0;obtain⟨E1,x,rfl,e1,ok1,r1,pr1⟩:=zu2 r hs w1.1 w2 h3;have:=hk _ (fr.put d (.v (.agg vs))) E1 h4 (r1.set c1 hpin (GK.refl _) (fun s _ _=>.refl _) (Since.refl _) r1.wf r1.fresh (ze2 (v:=.agg vs) (by simp[FR.put]) pr1.up) (fun s hs=>by cases hs));rw[e1]at this;exact this
   |pt s p i j=>exact plain h2
   |rv s p lo hi=>exact plain h2
   |as b s p i j n=>exact plain h2
   |cl s g us=>exact plain h2
   |_=>simp[zam]at hs0
  ·exact plain h2
theorem zyb{l:Nat→Lo}:∀{xs:List PV}{vs ws:List Value},zlh xs=some vs→xs.length=ws.length→(∀(j:Nat) (x:PV) (y:Value),xs[j]? =some x→ws[j]? =some y→PR E (l j) x y)→ws=vs:=by
 intro xs;induction xs generalizing l with
 |nil=>intro vs ws h1 h2 _;simp only[zlh]at h1;cases h1;exact List.eq_nil_of_length_eq_zero h2.symm
 |cons x xs ih=>
  intro vs ws h1 h2 h3;cases ws with
  |nil=>simp at h2
  |cons w ws=>
   cases x<;>simp only[zlh]at h1<;>try cases h1
   simp only[Option.map_eq_some_iff]at h1;obtain⟨vs',h4,rfl⟩:=h1;have h5:=h3 0 _ w rfl rfl;generalize l 0=l0 at h5;cases h5;exact congrArg _ (ih (l:=fun j=>l (j+1)) h4 (by simpa using h2) fun j x y hx hy=>h3 (j+1) x y (by simpa using hx) (by simpa using hy))
theorem ztM{w:Value}(h:toS x=some v)(hr:PR E l x w):w=v:=by
 cases x with
 |agg xs=>
  simp only[toS,Option.map_eq_some_iff]at h;obtain⟨vs,h1,rfl⟩:=h;cases hr with
  |agg hl hh=>
   have:=zyb h1 hl hh;rw[←this]
 |_=>simp[toS]at h<;>subst h<;>cases hr<;>rfl
theorem zmp(h:zeQ v=some x):PR E l x v:=by
 cases v<;>simp[zeQ]at h<;>subst h
 ·exact .bool _
 ·exact .int _ _
 ·exact .str _
theorem zcS(r:RelP nt pin E0 E pf fr){x:Operand}(h:rdS pf x=some v):rdv fr x=some v:=by
 cases x with
 |tmp t=>
  simp only[rdS]at h;have hf:=r.f t;cases hpt:pf t with
  |v x=>
   rw[hpt]at h hf;simp only[zpx]at h;obtain⟨w,h1,h2⟩:=zcl hf (by rintro rfl;simp[toS]at h);have:=ztM h h2;subst this;simp[rdv,h1]
  |_=>rw[hpt]at h;simp[zpx]at h
 |const k=>
  simp only[rdS]at h;split at h
  ·rename_i hk;have:=ztM h (zkH (E:=E) hk none);subst this;simp[rdv,hk]
  ·cases h
 |func f=>simp[rdS]at h
 |global g=>simp[rdS]at h
theorem zjd{H:AH}{x:Operand}(h:rdv fr x=some v):mat fr H x=some (v,fr,H):=by
 cases x with
 |tmp t=>simp only[rdv]at h;split at h<;>simp_all [mat]
 |const c=>simp[mat,h]
 |func f=>simp[mat,h]
 |global g=>simp[rdv]at h
theorem zus(r:RelP nt pin E0 E pf fr):∀{xs:List Operand}{vs:List Value},zh5 pf xs=some vs→∀H,zaG fr H xs=some (vs,fr,H):=by
 intro xs;induction xs with
 |nil=>intro vs h H;simp[zh5]at h;simp[zaG,h]
 |cons x xs ih=>
  intro vs h H;simp only[zh5,Option.bind_eq_some_iff,Option.map_eq_some_iff]at h;obtain⟨v,h1,vs1,h2,rfl⟩:=h;simp[zaG,zjd (H:=H) (zcS r h1),ih h2 H]
theorem zec(r:RelP c.nt pin E0 E pf fr)(hp:PinOK c pin){o:Oper}(h:zeP P c o K pf)
(hk:∀pf' fr' E',K pf'→RelP c.nt pin E0 E' pf' fr'→K' fr' E'.H):zaB P c.nt o K' fr E.H:=by
 unfold zeP at h;split at h
 ·rename_i vs hvs;split at h
  ·rename_i y hy;simp only[Option.bind_eq_some_iff]at hvs hy;obtain⟨xs,h1,h2⟩:=hvs;obtain⟨v,h3,h4⟩:=hy;simp only[zaB,h1,zus r h2,h3];exact za6 r hp (zmp h4) h hk
  ·cases h
 ·cases h
def zpe(nt:Nat)(E:Env)(fr:FR)(fv:FV):AD→Prop
 | .pl s p i j=>s<nt∧PtV E fr s p i j fv
 | .fz row=>∃v,fv=.v v∧PR E none (.fp row) v
theorem zvS(hw:Wk E fr s p v)(h:PR E (some (s,p)) (.bx row) v):PtV E fr s p 0 0 (.v v):=by
 cases h with
 |bx how hG hb hrw hl hh=>exact .inr ⟨_,_,0,hw,.bx how hG,rfl⟩
theorem ziS(r:RelP nt pin E0 E pf fr){a:Operand}(h:adr pf a=some ad):∃fv,rda fr a=some fv∧zpe nt E fr fv ad:=by
 cases a with
 |tmp t=>
  simp only[adr]at h;have hf:=r.f t
  have ht:t<nt:=by
   rcases Nat.lt_or_ge t nt with h1|h1
   ·exact h1
   ·rw[r.hi t h1]at h;simp[adF,jP,adV]at h
  cases hpt:pf t with
  |bl row=>
   rw[hpt]at h hf;simp only[adF,Option.some.injEq]at h;subst h;obtain⟨cells,c1,_⟩:=hf;exact⟨.lp t 0,by simp[rda,c1],ht,.inl ⟨cells,c1,rfl,rfl,rfl⟩⟩
  |v x=>
   rw[hpt]at h hf;simp only[adF]at h;obtain⟨v,h1,h2⟩:=zcl hf (by rintro rfl;simp[adV]at h);cases x with
   |bx row=>
    simp only[adV,Option.some.injEq]at h;subst h;exact⟨.v v,by simp[rda,h1],ht,zvS (.inl ⟨v,h1,rfl⟩) h2⟩
   |fp row=>
    simp only[adV,Option.some.injEq]at h;subst h;exact⟨.v v,by simp[rda,h1],v,rfl,h2.free (by simp[zaC])⟩
   |_=>simp[adV]at h
  |pt s p i j=>
   rw[hpt]at h hf;simp only[adF,Option.some.injEq]at h;subst h;have hs:=r.rt t s (by rw[hpt];rfl);rcases hf with⟨cells,h1,h2,h3,h4⟩|⟨v0,id,o,h1,h2,h3⟩
   ·exact⟨.lp s j,by simp[rda,h4,h1],hs,.inl ⟨cells,h1,h2,h3,rfl⟩⟩
   ·exact⟨_,by simp[rda,h3],hs,.inr ⟨v0,id,o,h1,h2,rfl⟩⟩
  |rf s p=>
   rw[hpt]at h hf;simp only[adF,Option.bind_eq_some_iff]at h;obtain⟨x,hx,h⟩:=h;obtain⟨v,h1,h2⟩:=hf;obtain⟨v',w1,w2⟩:=r.at hx (by rintro rfl;simp[adR]at h) (zbc r h2 hx);have:=w1.same h2;subst this;cases x with
   |bx row=>
    simp only[adR,Option.some.injEq]at h;subst h;exact⟨.v v',by simp[rda,h1],r.rt t s (by rw[hpt];rfl),zvS h2 w2⟩
   |fp row=>
    simp only[adR,Option.some.injEq]at h;subst h;exact⟨.v v',by simp[rda,h1],v',rfl,w2.free (by simp[zaC])⟩
   |_=>simp[adR]at h
  |_=>rw[hpt]at h;simp[adF]at h
 |_=>simp[adr]at h
theorem zhL(r:RelP c.nt pin E0 E pf fr)(hp:PinOK c pin)(hx:zpe c.nt E fr fv ad){d:Option Tmp}(h:zbr c K d (zj9 ad) pf)
(hk:∀pf' fr' E',K pf'→RelP c.nt pin E0 E' pf' fr'→K' fr' E'.H):zar c.nt K' d fv fr E.H:=by
 cases ad with
 |pl s p i j=>exact zb1 r hp (y:=.pt s p i j) rfl hx.1 hx.2 h hk
 |fz row=>
  obtain⟨v,rfl,hv⟩:=hx;exact za6 r hp hv.up h hk
theorem zz9{id off o:Nat}(h:PR E l (.fp row) (.pointer (some ⟨id,off,none⟩)))(ho:o≤row.length):PR E l (.fp (row.drop o)) (.pointer (some ⟨id,off+o,none⟩)):=by
 cases h with
 |fp hG hb hl hh=>
  refine .fp hG hb (by simp;omega) fun j x y h1 h2=>?_
  rw[List.getElem?_drop]at h1;exact hh (o+j) x y h1 (by rw[←Nat.add_assoc];exact h2)
theorem zvL(h:PR E l (.fp row) v):∃id off,v=.pointer (some ⟨id,off,none⟩):=by
 cases h;exact⟨_,_,rfl⟩
theorem zng{ad':AD}{o:Nat}(h:zpe nt E fr fv ad)(ha:zi8 o ad=some ad'):
 (∃t off,fv=.lp t off∧zpe nt E fr (.lp t (off+o)) ad')∨∃id off,fv=.v (.pointer (some ⟨id,off,none⟩))∧zpe nt E fr (.v (.pointer (some ⟨id,off+o,none⟩))) ad':=by
 cases ad with
 |pl s p i j=>
  simp only[zi8,Option.some.injEq]at ha;subst ha;obtain⟨hs,h⟩:=h;rcases h with⟨cells,h1,h2,h3,rfl⟩|⟨v0,id,o',h1,h2,rfl⟩
  ·exact .inl ⟨s,j,rfl,hs,.inl ⟨cells,h1,h2,h3,rfl⟩⟩
  ·exact .inr ⟨id,o'+j,rfl,hs,.inr ⟨v0,id,o',h1,h2,by rw[Nat.add_assoc]⟩⟩
 |fz row=>
  simp only[zi8]at ha;split at ha
  ·rename_i hle;simp only[Option.some.injEq]at ha;subst ha;obtain⟨v,rfl,hv⟩:=h;obtain⟨id,off,rfl⟩:=zvL hv;exact .inr ⟨id,off,rfl,_,rfl,zz9 hv hle⟩
  ·cases ha
end
end Go.Pm
