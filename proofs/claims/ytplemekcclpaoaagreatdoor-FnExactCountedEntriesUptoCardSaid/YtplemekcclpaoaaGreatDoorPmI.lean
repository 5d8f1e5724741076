import Derived.Test.YtplemekcclpaoaaGreatDoorPmH
namespace Go.Pm
set_option linter.unusedVariables false
set_option linter.unusedSimpArgs false
open Go.Am
def zc:List Nat→List Value→List PV
 |_,[]=>[]
 |[],v::vs=>zgF 0 v::zc [] vs
 |e::es,v::vs=>zgF e v::zc es vs
def esL(P:Program):Nat→TypeId→List Nat
 |0,_=>[]
 |n+1,t=>match P.underlying t with
  |some (.struct fields)=>fields.toList.flatMap fun f=>esL P n f.type
  |some (.array k e)=>(List.replicate k (esL P n e)).flatten
  |some (.slice e)=>[match tsz P e with|some z=>z.2.1|none=>0]
  |_=>[0]
def zz(P:Program)(t:TypeId)(z:List Value):List PV:=zc (esL P 8 t) z
def tk(P:Program)(t:TypeId):Option (Bool×Nat):=(tsz P t).map fun z=>(z.1,z.2.1)
def dz:PV→PV
 | .sl _ e []=>.sl false e []
 |x=>x
def ud:PV→PV
 | .sl _ e []=>.sl true e []
 |x=>x
def nzB(c:Cfg):Option Tmp→Bool
 |some d=>c.fz.contains (d+c.nt)
 |none=>false
def uz(b:Bool)(z:List PV):List PV:=if b=true then z.map ud else z
def zr(P:Program)(t:TypeId):Option (List PV):=(tsz P t).bind fun z=>if z.2.2.2.all zai=true then some (zz P t z.2.2.2)else none
def esz(P:Program)(t:TypeId):Option Nat:=(zaw P t).bind fun e=>(tsz P e).map fun z=>z.2.1
def ezT(P:Program)(t:TypeId):Nat:=(esz P t).getD 0
def zqM:PF→Option PF
 | .as true s p i j _=>some (.rf s (p++[(i,j)]))
 |_=>none
def zrf(P:Program)(t:TypeId)(pf:PFr):Operand→Option PF
 | .tmp u=>(tk P t).bind fun tz=>if tz.1=false then zqM (pf u)else none
 |_=>none
def zq0(P:Program)(t:TypeId)(u:Nat)(pf:PFr):PF→Option Value→Option (PF×PFr)
 | .as false s p i j n,some (.int _ q)=>if esz P t=some 1∧0≤q∧q<n then some (.as true s p i (j+q.toNat) 1,pf.put u jP)else none
 |_,_=>none
def zpL(P:Program)(t:TypeId)(x i:Operand)(pf:PFr):Option (PF×PFr):=
 match x with
 | .tmp u=>zq0 P t u pf (pf u) (rdS pf i)
 |_=>none
def mkd(c:Cfg)(d:Nat):Bool:=c.fz.contains (d+2*c.nt)
def zn1:PF→Option (Nat×zad)
 | .rf s p=>some (s,p)
 |_=>none
def zpg(t:Nat):PF→Option PF
 | .bl _=>some (.pt t [] 0 0)
 | .rf s p=>some (.rf s p)
 | .cl s g us=>some (.cl s g us)
 |_=>none
def znv(c:Cfg)(pf:PFr):Option Tmp→Operand→Option PF
 |some d,.tmp t=>if mkd c d=true then zpg t (pf t)else none
 |_,_=>none
def ltB(c:Cfg):Option Tmp→Bool
 |some d=>c.fz.contains (d+6*c.nt)
 |none=>false
def tkE(c:Cfg)(d:Option Tmp)(pf:PFr):PF→Option (PF×PFr)
 | .rf s p=>if ltB c d=true then(zaz pf s p).bind fun x=>if isJ x=true then none else(zck pf s p .junk).map fun pf'=>(.v x,pf')else some (.rf s p,pf)
 |y=>some (y,pf)
def zm1(c:Cfg)(K:PFr→Prop)(d:Option Tmp)(y:PF)(pf:PFr):Prop:=
 match tkE c d pf y with
 |some z=>zbr c K d z.1 z.2
 |none=>False
def zmW(P:Program)(c:Cfg)(t:TypeId)(a:Operand)(d:Option Tmp)(K:PFr→Prop)(pf:PFr):Prop:=
 match(tk P t).bind fun tz=>(adr pf a).bind (ldA tz pf)with
 |some y=>zm1 c K d y pf
 |none=>match zrf P t pf a with
  |some y=>zbr c K d y pf
  |none=>False
def zfJ:PV→Bool
 | .agg _| .tup _| .junk=>false
 |_=>true
def zpa(sz:Nat)(x:PV):Bool:=zcc x&&decide ((zay x).length=sz)&&decide (sz≠0)&&(zay x).all zfJ
def zjp(K:PFr→Prop)(y:PV)(pf:PFr):Option AD→Prop
 |some (.pl s p i j)=>match zeo pf s p i j (zay y)with
  |some pf'=>K pf'
  |none=>False
 |_=>False
def zkx(P:Program)(c:Cfg)(t:TypeId)(a x:Operand)(d:Option Tmp)(K:PFr→Prop)(pf:PFr):Prop:=
 match tk P t,zbg (ezT P t) pf x with
 |some (_,sz),some (y,pf1)=>zpa sz y=true∧d=none∧zjp K y pf1 (adr pf1 a)
 |_,_=>False
def pad(c:Cfg)(K:PFr→Prop)(d:Option Tmp)(pf:PFr):Option AD→Prop
 |some ad=>zbr c K d (zj9 ad) pf
 |none=>False
def zvC(P:Program)(c:Cfg)(s:TypeId)(x:Operand)(f:Nat)(d:Option Tmp)(K:PFr→Prop)(pf:PFr):Prop:=
 pad c K d pf ((zah P s f).bind fun o=>(adr pf x).bind (zi8 o.1))
def zAM(c:Cfg)(x:Operand)(d:Option Tmp)(K:PFr→Prop)(pf:PFr):Prop:=pad c K d pf (adr pf x)
inductive SB where
 |own (s:Nat) (p:zad) (lo n es:Nat)
 |fz (es:Nat) (rows:List (List PV))
def sbV(s:Nat)(p:zad):PV→Option SB
 | .sl true es rows=>some (.own s p 0 rows.length es)
 | .sl false es rows=>some (.fz es rows)
 |_=>none
def sbW(s:Nat)(p:zad)(lo hi:Nat):PV→Option SB
 | .sl true es rows=>if lo≤hi∧hi≤rows.length then some (.own s p lo (hi-lo) es)else none
 | .sl false es rows=>if lo≤hi∧hi≤rows.length then some (.fz es ((rows.take hi).drop lo))else none
 |_=>none
def sbF(pf:PFr)(t:Nat):PF→Option SB
 | .v x=>sbV t [] x
 | .rf s p=>(zaz pf s p).bind (sbV s p)
 | .rv s p lo hi=>(zaz pf s p).bind (sbW s p lo hi)
 |_=>none
def sbO(pf:PFr):Operand→Option SB
 | .tmp t=>sbF pf t (pf t)
 |_=>none
def zo6(es0:Nat)(j:Int):SB→Option AD
 | .own s p lo n es=>if es=es0∧0≤j∧j<n then some (.pl s p (lo+j.toNat) 0)else none
 | .fz es rows=>if es=es0∧0≤j then(rows[j.toNat]?).map .fz else none
def ixS(es0:Nat)(j:Option Value)(x:SB):Option AD:=
 match j with
 |some (.int _ j)=>zo6 es0 j x
 |_=>none
def asz(P:Program)(t:TypeId):Option (Nat×Nat):=(zj0 P t).bind fun e=>(tsz P e.2).map fun z=>(e.1,z.2.1)
def ixA(len es:Nat)(j:Option Value)(ad:AD):Option AD:=
 match j with
 |some (.int _ j)=>if 0≤j∧j<len then zi8 (j.toNat*es) ad else none
 |_=>none
def ixE(P:Program)(t:TypeId)(x i:Operand)(pf:PFr):Option AD:=
 match esz P t with
 |some es=>(sbO pf x).bind (ixS es (rdS pf i))
 |none=>match asz P t with
  |some (len,es)=>(adr pf x).bind (ixA len es (rdS pf i))
  |none=>none
def zkF(P:Program)(c:Cfg)(t:TypeId)(x i:Operand)(d:Option Tmp)(K:PFr→Prop)(pf:PFr):Prop:=
 match ixE P t x i pf with
 |some ad=>zbr c K d (zj9 ad) pf
 |none=>match zpL P t x i pf with
  |some y=>zbr c K d y.1 y.2
  |none=>False
def zkt(P:Program)(c:Cfg)(e:TypeId)(d:Option Tmp)(K:PFr→Prop)(pf:PFr):Prop:=
 match zr P e,d with
 |some z,some d=>ckd c d .skip=true∧if c.hp.contains d=true then K (pf.put d (.v (.bx z)))else K (pf.put d (.bl z))
 |_,_=>False
def zio:PF→Bool
 | .ls .. =>true
 |_=>false
def lsO(pf:PFr):Operand→Bool
 | .tmp t=>zio (pf t)
 |_=>false
def zpP(P:Program)(c:Cfg)(e:TypeId)(x:Operand)(d:Option Tmp)(K:PFr→Prop)(pf:PFr):Prop:=
 match tk P e,zbg (ezT P e) pf x,d with
 |some _,some (y,pf1),some d=>lsO pf x=false∧zcc y=true∧ckd c d .skip=true∧if c.hp.contains d=true then(if c.fz.contains d=true then K ((pf1.put d (.v (.bx (zay y)))).put d (.v (drop (.bx (zay y)))))else K (pf1.put d (.v (.bx (zay y)))))else K (pf1.put d (.bl (zay y)))
 |_,_,_=>False
def lyB(c:Cfg):Option Tmp→Bool
 |some d=> !c.hp.isEmpty&&c.fz.contains (d+5*c.nt)
 |none=>false
def lyR(pf:PFr)(t s:Nat):zad→Nat→Nat→PF→Option (PF×PFr)
 |[],0,0,.bl row=>some (.rf s [],((pf.upd s (.v (.bx row))).kill s 0).put t (.rf s []))
 |_,_,_,_=>none
def zgK(c:Cfg)(t:Nat)(d:Option Tmp)(K:PFr→Prop)(pf:PFr):PF→Prop
 | .v x=>isJ x=false∧if zaC x=true then zbr c K d (.rf t []) pf else zbr c K d (.v x) pf
 | .ls es rows=>t<c.nt∧zbr c K d (.rf t []) ((pf.upd t (.v (.sl true es rows))).kill t 0)
 | .bl _=>zbr c K d (.pt t [] 0 0) pf
 | .skip=>False
 | .as .. =>False
 | .pt s p i j=>if lyB c d=true then match lyR pf t s p i j (pf s)with
  |some y=>zbr c K d y.1 y.2
  |none=>False
  else zbr c K d (.pt s p i j) pf
 |y=>zbr c K d y pf
def zhZ(e:Nat)(c:Cfg)(x:Operand)(d:Option Tmp)(K:PFr→Prop)(pf:PFr):Prop:=
 match x with
 | .tmp t=>zgK c t d K pf (pf t)
 |x=>match zbg e pf x with
  |some (y,pf1)=>zbr c K d (.v y) pf1
  |none=>False
def zjo(e:Nat)(c:Cfg)(x:Operand)(d:Option Tmp)(K:PFr→Prop)(pf:PFr):Prop:=
 match znv c pf d x with
 |some y=>zbr c K d y pf
 |none=>match zbg e pf x with
  |some (y,pf1)=>zbr c K d (.v y) pf1
  |none=>False
section
variable {nt:Nat}{pin:List (Nat×Value)}{E0 E E':Env}{pf:PFr}{fr fr':FR}{c:Cfg}{P:Program}
variable{K:PFr→Prop}{K':FR→AH→Prop}{a x:Operand}{d:Option Tmp}{fv:FV}{o:Oper}{p:zad}{s:Nat}{t:TypeId}
theorem zjn{x:Bool×Nat}(h:tk P t=some x):∃r,tsz P t=some (x.1,x.2,r):=by
 simp only[tk,Option.map_eq_some_iff]at h;obtain⟨⟨a,b,cc⟩,h1,rfl⟩:=h;exact⟨cc,h1⟩
theorem zAe{x:List PV}(h:zr P t=some x):∃g s b z,tsz P t=some (g,s,b,z)∧z.all zai=true∧x=zz P t z:=by
 simp only[zr,Option.bind_eq_some_iff]at h;obtain⟨⟨a,b,cc,z⟩,h1,h2⟩:=h;split at h2
 ·rename_i hz;simp only[Option.some.injEq]at h2;exact⟨a,b,cc,z,h1,hz,h2.symm⟩
 ·cases h2
theorem zhu:∀{n:Nat}{cs:List Value},n≤cs.length→zg3 n cs=some (cs.take n):=by
 intro n;induction n with
 |zero=>intro cs _;simp[zg3]
 |succ n ih=>
  intro cs h;cases cs with
  |nil=>simp at h
  |cons c cs=>simp[zg3,ih (by simpa using h)]
def ldV(fr:FR)(H:AH):FV→Option (List Value)
 | .lp s o=>match fr s with
  | .loc cells=>some (cells.drop o)
  |_=>none
 | .v (.pointer (some ⟨id,off,none⟩))=>H.load id off
 |_=>none
theorem zmu{H:AH}(h:rda fr a=some fv):zcq fr H a=ldV fr H fv:=by
 unfold zcq ldV;rw[h];cases fv with
 |v x=>
  cases x with
  |pointer p=>
   cases p with
   |none=>rfl
   |some a=>obtain⟨b,o,sp⟩:=a;cases sp<;>rfl
  |_=>rfl
 |_=>rfl
theorem zyg(r:RelP nt pin E0 E pf fr){i j:Nat}{row:List PV}(h:PtV E fr s p i j fv)(hr:zoj pf s p i=some row):
 ∃cs,ldV fr E.H fv=some cs∧∀q,j+q<row.length→∃y,cs[q]? =some y∧Wk E fr s (p++[(i,j+q)]) y:=by
 obtain⟨z,hz,hrow⟩:=Option.bind_eq_some_iff.1 hr;rcases h with⟨cells,h1,rfl,rfl,rfl⟩|⟨v0,id,o,hw,hd,rfl⟩
 ·have hlen:row.length=cells.length:=by
   have hf:=r.f s;simp only[zaz,Option.bind_eq_some_iff]at hz;obtain⟨x0,g1,g2⟩:=hz;simp only[zeN,Option.some.injEq]at g2;subst g2;cases hps:pf s with
   |bl row'=>
    rw[hps]at hf g1;obtain⟨cells',c1,c2,_⟩:=hf;rw[h1]at c1;cases c1;simp only[zbs,Option.some.injEq]at g1;subst g1;simp only[zfR,if_true,Option.some.injEq]at hrow;subst hrow;exact c2
   |v y=>
    rw[hps]at hf g1;simp only[zbs,Option.some.injEq]at g1;subst g1;obtain⟨w,e,_⟩:=zcl hf (by rintro rfl;simp[zfR]at hrow);rw[h1]at e;cases e
   |_=>rw[hps]at g1;simp[zbs]at g1
  refine⟨cells.drop j,by simp[ldV,h1],fun q hq=>?_⟩;have hlt:j+q<cells.length:=by omega
  refine⟨cells[j+q],?_,.inr ⟨cells,j+q,[],_,h1,rfl,List.getElem?_eq_getElem hlt,rfl⟩⟩;rw[List.getElem?_drop,List.getElem?_eq_getElem hlt]
 ·obtain⟨v',w1,w2⟩:=r.at hz (by rintro rfl;simp[zfR]at hrow) (zbc r hw hz);have:=w1.same hw;subst this;cases w2 with
  | @slO _ id' off es n cc k rows how hG hb hrw hn hc hm hrr hl hh=>
   cases hd with
   |sl how2 hG2 hi=>
   simp only[zfR]at hrow;have hes:=hrr row (List.mem_of_getElem? hrow);refine⟨k.cells.drop (off+i*es+j),by simp[ldV,AH.load,hb],fun q hq=>?_⟩;have h5:(i+1)*es≤cc*es:=Nat.mul_le_mul_right _ (by omega);rw[Nat.succ_mul]at h5;have hlt:off+i*es+j+q<k.cells.length:=by omega
   refine⟨k.cells[off+i*es+j+q],by rw[List.getElem?_drop,List.getElem?_eq_getElem hlt],hw.snoc ⟨_,off+i*es,k,_,.sl (j:=j) how hG hi,?_,hb,by rw[←Nat.add_assoc];exact List.getElem?_eq_getElem hlt,rfl⟩⟩;rintro es' ⟨_,_,_,e⟩;cases e;omega
  | @bx _ id' k row' how hG hb hrw hl hh=>
   cases hd with
   |bx how2 hG2=>
   simp only[zfR,if_true,Option.some.injEq]at hrow;subst hrow;refine⟨k.cells.drop (0+j),by simp[ldV,AH.load,hb],fun q hq=>?_⟩;have hlt:j+q<k.cells.length:=by omega
   refine⟨k.cells[j+q],by rw[List.getElem?_drop,Nat.zero_add,List.getElem?_eq_getElem hlt],hw.snoc ⟨_,0,k,_,.bx how hG,?_,hb,by rw[Nat.zero_add];exact List.getElem?_eq_getElem hlt,rfl⟩⟩;rintro es' ⟨_,_,_,e⟩;cases e
  |sl0 ob es=>cases hd
  |_=>simp[zfR]at hrow
theorem znW(r:RelP nt pin E0 E pf fr){i q:Nat}{row:List PV}{x:PV}{y:Value}(hr:zoj pf s p i=some row)(hx:row[q]? =some x)(hw:Wk E fr s (p++[(i,q)]) y):PR E (some (s,p++[(i,q)])) x y:=by
 by_cases hj:x=.junk
 ·subst hj;exact .junk y
 ·obtain⟨v',w1,w2⟩:=r.at (s:=s) (p:=p++[(i,q)]) (by rw[zpT hr];exact hx) hj (.inl zog);rw[w1.same hw]at w2;exact w2
theorem zkL{y:PF}(hy:∀s p,y≠.rf s p)(h:zm1 c K d y pf):zbr c K d y pf:=by
 cases y with
 |rf s p=>exact absurd rfl (hy s p)
 |_=>exact h
theorem zsX(r:RelP c.nt pin E0 E pf fr)(hp:PinOK c pin)(h:zmW P c t a d K pf)
(hk:∀pf' fr' E',K pf'→RelP c.nt pin E0 E' pf' fr'→K' fr' E'.H):match zfr P t (zcq fr E.H a)with|some v=>zar c.nt K' d (.v v) fr E.H|none=>False:=by
 unfold zmW at h;split at h
 ·rename_i y hy;simp only[Option.bind_eq_some_iff]at hy;obtain⟨tz,ht0,ad,had,hld⟩:=hy;obtain⟨fv,hrd,hok⟩:=ziS r had;rw[zmu hrd];obtain⟨rest,ht⟩:=zjn ht0;obtain⟨g,sz⟩:=tz;simp only at ht;cases ad with
  |pl s p i j=>
   obtain⟨hs,hpt⟩:=hok;simp only[ldA,Option.bind_eq_some_iff]at hld;obtain⟨row,hrow,hld⟩:=hld;obtain⟨cs,hcs,hcell⟩:=zyg r hpt hrow;rw[hcs];cases g with
   |true=>
    simp only[zkT]at hld;split at hld
    ·rename_i hle;simp only[Option.some.injEq]at hld
     have hlen:sz≤cs.length:=by
      rcases Nat.eq_zero_or_pos sz with h0|h0
      ·omega
      ·obtain⟨y,h1,_⟩:=hcell (sz-1) (by omega);have:=(List.getElem?_eq_some_iff.1 h1).1;omega
     simp only[zfr,ht,zhu hlen,Option.map_some]
     have hq:∀(q:Nat) (y:Value),(cs.take sz)[q]? =some y→q<sz∧Wk E fr s (p++[(i,j+q)]) y:=by
      intro q y hq;rw[List.getElem?_take]at hq;split at hq
      ·rename_i hlt;obtain⟨y',h1,h2⟩:=hcell q (by omega);rw[h1]at hq;cases hq;exact⟨hlt,h2⟩
      ·cases hq
     split at hld
     ·rename_i ho;subst hld;have hsz:sz≠0:=by rintro rfl;simp at ho
      exact zb1 r hp (y:=.ra s p i j sz) rfl hs ⟨_,rfl,⟨by simp;omega,hsz⟩,fun q y h1=>(hq q y (by simpa using h1)).2⟩ (zkL (by intro s p e;cases e) h) hk
     ·rename_i ho;subst hld;refine za6 r hp (PR.up (.agg (by simp;omega) fun q x y h1 h2=>?_)) (zkL (by intro s p e;cases e) h) hk;have h2:=hq q y (by simpa using h2);rw[List.getElem?_take,if_pos h2.1,List.getElem?_drop]at h1;refine(znW r hrow h1 h2.2).free ?_
      have:=List.any_eq_false.1 (by simpa using ho) x (by
       rw[List.mem_iff_getElem?]
       exact⟨q,by rw[List.getElem?_take,if_pos h2.1,List.getElem?_drop];exact h1⟩)
      simpa using this
    ·cases hld
   |false=>
    simp only[zkT]at hld;split at hld
    ·rename_i x rest' hdr;simp only[Option.some.injEq]at hld
     have hx:row[j]? =some x:=by
      have:(row.drop j)[0]? =some x:=by rw[hdr];rfl
      rw[List.getElem?_drop]at this;exact this
     obtain⟨y',h1,h2⟩:=hcell 0 (by have:=(List.getElem?_eq_some_iff.1 hx).1;omega);rw[Nat.add_zero]at h2;cases cs with
     |nil=>simp at h1
     |cons c0 cs=>
      simp at h1;subst h1;simp only[zfr,ht];split at hld
      ·subst hld;simp only[zm1,tkE]at h;split at h
       ·rename_i z hz;split at hz
        ·simp only[Option.bind_eq_some_iff]at hz;obtain⟨x0,hx0,hz⟩:=hz;split at hz
         ·cases hz
         ·rename_i hj0;simp only[Option.map_eq_some_iff]at hz;obtain⟨pf',hset,rfl⟩:=hz;have hxj:=ze5 (x:=x0) (by simpa using hj0);obtain⟨v0,E1,w1,w2,w3,w4⟩:=r.takeAt (fl:=[]) (fun k x v h=>by simp at h) hs hx0 hxj (.inl (by simp)) hset;have ev:=w1.same h2;subst ev;have:=za6 w3 hp (w4 0 x0 v0 rfl) h hk;rw[w2]at this;exact this
        ·cases hz;exact zb1 r hp (y:=.rf s (p++[(i,j)])) rfl hs ⟨_,rfl,h2⟩ h hk
       ·cases h
      ·rename_i ho;subst hld;exact za6 r hp ((znW r hrow hx h2).free (by simpa using ho)).up (zkL (by intro s p e;cases e) h) hk
    ·cases hld
  |fz row=>
   obtain⟨v,rfl,hv⟩:=hok;cases hv with
   | @fp _ id off k _ hG hb hl hh=>
   simp only[ldA]at hld;have hcs:ldV fr E.H (.v (.pointer (some ⟨id,off,none⟩)))=some (k.cells.drop off):=by simp[ldV,AH.load,hb]
   rw[hcs];cases g with
   |true=>
    simp only[zpD]at hld;split at hld
    ·rename_i hle;simp only[Option.some.injEq]at hld;subst hld;have hlen:sz≤(k.cells.drop off).length:=by simp;omega
     simp only[zfr,ht,zhu hlen,Option.map_some];refine za6 r hp (PR.up (.agg (by simp;omega) fun q x y h1 h2=>?_)) (zkL (by intro s p e;cases e) h) hk;have h2:((k.cells.drop off).take sz)[q]? =some y:=by simpa using h2
     rw[List.getElem?_take]at h1 h2;split at h1
     ·rename_i hlt;rw[if_pos hlt,List.getElem?_drop]at h2;exact hh q x y h1 h2
     ·cases h1
    ·cases hld
   |false=>
    simp only[zpD]at hld;split at hld
    ·rename_i x rest';simp only[Option.some.injEq]at hld;subst hld;have hlt:off<k.cells.length:=by simp at hl;omega
     rw[List.drop_eq_getElem_cons hlt];simp only[zfr,ht];exact za6 r hp (PR.up (hh 0 x _ rfl (List.getElem?_eq_getElem hlt))) (zkL (by intro s p e;cases e) h) hk
    ·cases hld
 ·split at h
  ·rename_i y hy;unfold zrf at hy;split at hy
   ·rename_i u _;simp only[Option.bind_eq_some_iff]at hy;obtain⟨⟨g,sz⟩,ht0,hy⟩:=hy;obtain⟨rest,ht⟩:=zjn ht0;split at hy
    ·rename_i hg;simp only at hg ht;subst hg;have hf:=r.f u;unfold zqM at hy;split at hy
     ·rename_i s p i j n hpu;simp only[Option.some.injEq]at hy;subst hy;rw[hpu]at hf;obtain⟨id,off,k,v,h1,hG,hb,hc,hw⟩:=hf;have hs:=r.rt u s (by rw[hpu];rfl);rw[zmu (fv:=.v (.pointer (some ⟨id,off,none⟩))) (by simp[rda,h1])];have hcs:ldV fr E.H (.v (.pointer (some ⟨id,off,none⟩)))=some (k.cells.drop off):=by simp[ldV,AH.load,hb]
      rw[hcs];obtain⟨hlt,rfl⟩:=List.getElem?_eq_some_iff.1 hc;rw[List.drop_eq_getElem_cons hlt];simp only[zfr,ht];exact zb1 r hp (y:=.rf s (p++[(i,j)])) rfl hs ⟨_,rfl,hw⟩ h hk
     ·cases hy
    ·cases hy
   ·cases hy
  ·cases h
theorem zlU{l:Lo}{x:PV}{v:Value}(h:PR E l x v)(hx:zfJ x=true):zeb v=true:=by
 cases h<;>first|rfl|cases hx
theorem zrj(r:RelP c.nt pin E0 E pf fr)(ho:o.op=.store t a x)(h:zkx P c t a x o.dst K pf)
(hk:∀pf' fr' E',K pf'→RelP c.nt pin E0 E' pf' fr'→K' fr' E'.H):aop P c.nt o K' fr E.H:=by
 unfold zkx at h;split at h
 ·rename_i g sz y pf1 ht0 htk;obtain⟨rest,ht⟩:=zjn ht0;simp only at ht;obtain⟨h1,h2,h3⟩:=h;simp only[zpa,Bool.and_eq_true,decide_eq_true_eq]at h1;obtain⟨⟨⟨k1,k2⟩,k3⟩,k4⟩:=h1;obtain⟨v,fr1,H1,E1,m1,e1,r1,f1⟩:=zdw r (fl:=[]) (fun k x v h=>by simp at h) htk;have hfl:PR E1 (some (c.nt,[(0,0)])) y v:=f1 0 y v rfl;obtain⟨c1,c2,c3⟩:=zgu (E':=E1.rl (rlF (c.nt,[(0,0)]) (0,[]) 0 0 y)) (b:=(0,[])) (i:=0) (j:=0) hfl k1 zba fun a b h=>zcJ h
  have hsol:v.cells.toList.all zeb=true:=by
   rw[List.all_eq_true]at k4⊢;intro w hw;obtain⟨q,hq⟩:=List.getElem?_of_mem hw;have hlt:q<(zay y).length:=by have:=(List.getElem?_eq_some_iff.1 hq).1;omega
   exact zlU (c2 q _ w (List.getElem?_eq_getElem hlt) hq) (k4 _ (List.getElem_mem hlt))
  have hne:zay y≠[]:=fun e=>k3 (by rw[←k2,e];rfl)
  unfold zjp at h3;split at h3
  ·rename_i s p i j had;split at h3
   ·rename_i pf2 hput;obtain⟨fv,hrd,hs,hpt⟩:=ziS r1 had;obtain⟨fr2,H2,E2,hst,e2,r2⟩:=r1.storeAt hs hfl k1 hne hpt hput;have hK:=hk pf2 fr2 E2 h3 r2;unfold aop;rw[ho];simp only[m1,ht];rw[if_pos ⟨c3,by rw[←c1,k2],k3,hsol⟩,hrd,h2];rw[e2]at hK;rcases hst with⟨s',off,cells,cs,rfl,g1,g2,rfl,rfl⟩|⟨id,off,k,cs,rfl,g1,g2,g3,rfl,rfl⟩
    ·simp only[g1,g2,zar];rw[e1]at hK;exact hK
    ·rw[e1]at g1 hK;simp only[g1,g2,if_true,g3,zar];exact hK
   ·cases h3
  ·cases h3
 ·cases h
theorem ztB{x:Option AD}(h:pad c K d pf x):∃ad,x=some ad∧zbr c K d (zj9 ad) pf:=by
 cases x with
 |none=>cases h
 |some ad=>exact⟨ad,rfl,h⟩
theorem zrM(r:RelP c.nt pin E0 E pf fr)(hp:PinOK c pin){s:TypeId}{f:Nat}(ho:o.op=.fieldAddr s x f)(h:zvC P c s x f o.dst K pf)
(hk:∀pf' fr' E',K pf'→RelP c.nt pin E0 E' pf' fr'→K' fr' E'.H):aop P c.nt o K' fr E.H:=by
 obtain⟨ad',had,hput⟩:=ztB h;simp only[Option.bind_eq_some_iff]at had;obtain⟨⟨off,sz⟩,hfo,ad,had,hadd⟩:=had;obtain⟨fv,hrd,hok⟩:=ziS r had;unfold aop;rw[ho];simp only[zcV,hfo,hrd];rcases zng hok hadd with⟨t,of,rfl,h2⟩|⟨id,of,rfl,h2⟩
 ·exact zhL r hp h2 hput hk
 ·exact zhL r hp h2 hput hk
theorem zwv{ad:AD}(h:zpe nt E fr fv ad):(∃s o,fv=.lp s o)∨∃a,fv=.v (.pointer (some a)):=by
 cases ad with
 |pl s p i j=>
  rcases h.2 with⟨cells,h1,h2,h3,rfl⟩|⟨v0,id,o,h1,h2,rfl⟩
  ·exact .inl ⟨_,_,rfl⟩
  ·exact .inr ⟨_,rfl⟩
 |fz row=>
  obtain⟨v,rfl,hv⟩:=h;obtain⟨id,off,rfl⟩:=zvL hv;exact .inr ⟨_,rfl⟩
theorem zvm(r:RelP c.nt pin E0 E pf fr)(hp:PinOK c pin)(ho:o.op=.nilCheck x)(h:zAM c x o.dst K pf)
(hk:∀pf' fr' E',K pf'→RelP c.nt pin E0 E' pf' fr'→K' fr' E'.H):aop P c.nt o K' fr E.H:=by
 obtain⟨ad,had,hput⟩:=ztB h;obtain⟨fv,hrd,hok⟩:=ziS r had;unfold aop;rw[ho];simp only[zcV,hrd];rcases zwv hok with⟨s,of,rfl⟩|⟨a,rfl⟩
 ·exact zhL r hp hok hput hk
 ·exact zhL r hp hok hput hk
theorem znN{es:Nat}(h:esz P t=some es):∃e g r,zaw P t=some e∧tsz P e=some (g,es,r):=by
 unfold esz at h;cases he:zaw P t with
 |none=>rw[he]at h;cases h
 |some e=>
  rw[he]at h;simp only[Option.bind_some]at h;cases hz:tsz P e with
  |none=>rw[hz]at h;cases h
  |some z=>
   rw[hz]at h;obtain⟨g,es',r⟩:=z;simp only[Option.map_some,Option.some.injEq]at h;subst h;exact⟨e,g,r,rfl,hz⟩
theorem zxl{len es:Nat}(h:asz P t=some (len,es)):∃e g r,zj0 P t=some (len,e)∧tsz P e=some (g,es,r):=by
 unfold asz at h;cases he:zj0 P t with
 |none=>rw[he]at h;cases h
 |some e=>
  obtain⟨n,e⟩:=e;rw[he]at h;simp only[Option.bind_some]at h;cases hz:tsz P e with
  |none=>rw[hz]at h;cases h
  |some z=>
   rw[hz]at h;obtain⟨g,es',r⟩:=z;simp only[Option.map_some,Option.some.injEq,Prod.mk.injEq]at h;obtain⟨rfl,rfl⟩:=h;exact⟨e,g,r,rfl,hz⟩
def zBt(nt:Nat)(E:Env)(fr:FR)(v:Value):SB→Prop
 | .own s p lo n es=>s<nt∧((n=0)∨∃id off m cc cw,Wk E fr s p (.slice (some ⟨id,off,some es⟩) m cc)∧E.ow id=some (s,p)∧¬E.G id∧lo+n≤m∧v=.slice (some ⟨id,off+lo*es,some es⟩) n cw)
 | .fz es rows=>PR E none (.sl false es rows) v
theorem zpZ{x:PV}{v:Value}{sb:SB}(hs:s<nt)(h:sbV s p x=some sb)(hw:Wk E fr s p v)(hx:PR E (some (s,p)) x v):zBt nt E fr v sb:=by
 unfold sbV at h;split at h
 ·rename_i es rows;simp only[Option.some.injEq]at h;subst h;refine⟨hs,?_⟩;cases hx with
  |sl0 _ _=>exact .inl rfl
  | @slO _ id off es n cc k rows how hG hb hrw hn hc hm hr hl hh=>exact .inr ⟨id,off,n,cc,cc,hw,how,hG,by omega,by rw[hn];simp⟩
 ·simp only[Option.some.injEq]at h;subst h;exact hx.free (by simp[zaC])
 ·cases h
theorem zw6(r:RelP nt pin E0 E pf fr){sb:SB}(h:sbO pf x=some sb):∃v,rda fr x=some (.v v)∧zBt nt E fr v sb:=by
 cases x with
 |tmp t=>
  simp only[sbO]at h;have hf:=r.f t
  have ht:t<nt:=by
   rcases Nat.lt_or_ge t nt with h1|h1
   ·exact h1
   ·rw[r.hi t h1]at h;simp[sbF,jP,sbV]at h
  cases hpt:pf t with
  |v x=>
   rw[hpt]at h hf;simp only[sbF]at h;obtain⟨v,h1,h2⟩:=zcl hf (by rintro rfl;simp[sbV]at h);exact⟨v,by simp[rda,h1],zpZ ht h (.inl ⟨v,h1,rfl⟩) h2⟩
  |rf s p=>
   rw[hpt]at h hf;simp only[sbF,Option.bind_eq_some_iff]at h;obtain⟨x,hx,h⟩:=h;obtain⟨v,h1,h2⟩:=hf;obtain⟨v',w1,w2⟩:=r.at hx (by rintro rfl;simp[sbV]at h) (zbc r h2 hx);have:=w1.same h2;subst this;exact⟨v',by simp[rda,h1],zpZ (r.rt t s (by rw[hpt];rfl)) h h2 w2⟩
  |rv s p lo hi=>
   rw[hpt]at h hf;simp only[sbF,Option.bind_eq_some_iff]at h;obtain⟨x,hx,h⟩:=h;have hs:=r.rt t s (by rw[hpt];rfl);unfold sbW at h;split at h
   ·rename_i es rows;split at h
    ·rename_i hb;simp only[Option.some.injEq]at h;subst h;rcases hf with⟨h1,h2,rfl,rfl⟩|⟨id,off,es',n,cc,h1,h2,h3,h4⟩
     ·exact⟨.slice none 0 0,by simp[rda,h2],hs,.inl (by omega)⟩
     ·obtain⟨v',w1,w2⟩:=r.at hx (by simp) (zbc r h1 hx);have:=w1.same h1;subst this;have ee:=zj3 w2;subst ee;refine⟨.slice (some ⟨id,off+lo*es,some es⟩) (hi-lo) (cc-lo),by simp[rda,h4],hs,?_⟩;cases w2 with
      |slO how hG hb hrw hn hc hm hr hl hh=>exact .inr ⟨_,_,_,_,_,h1,how,hG,by omega,rfl⟩
    ·cases h
   ·rename_i es rows;split at h
    ·rename_i hb;simp only[Option.some.injEq]at h;subst h;rcases hf with⟨h1,h2,rfl,rfl⟩|⟨id,off,es',n,cc,h1,h2,h3,h4⟩
     ·exact⟨.slice none 0 0,by simp[rda,h2],by show PR E none (.sl false es _) _;simpa using PR.sl0 (E:=E) (l:=none) false es⟩
     ·obtain⟨v',w1,w2⟩:=r.at hx (by simp) (zbc r h1 hx);have:=w1.same h1;subst this;have ee:=zj3 w2;subst ee;obtain⟨_,_,_,e3⟩:=w2.cut h2 h3;exact⟨.slice (some ⟨id,off+lo*es,some es⟩) (hi-lo) (cc-lo),by simp[rda,h4],e3.free (by simp[zaC])⟩
    ·cases h
   ·cases h
  |_=>rw[hpt]at h;simp[sbF]at h
 |_=>simp[sbO]at h
theorem RelP.matJ(r:RelP nt pin E0 E pf fr){u n:Nat}{cs:List Value}(hu:u<nt)(hf:fr u=.ls n 1 cs):
 ∃E',RelP nt pin E0 E' (pf.put u jP) (fr.put u (.v (.slice (some ⟨E.H.n,0,some 1⟩) n n)))∧E'.H=E.H.push ⟨true,cs⟩∧E'.G E.H.n∧∀s,s<nt→s≠u→MoveOK E E' (some (s,[])) (some (s,[])):=by
 have ok:=r.ok;have hpin:∀v,(u,v)∉pin:=fun v hv=>by have:=r.pin u v hv;rw[hf]at this;cases this
 let E1:=E.push ⟨true,cs⟩ (u,[]) fun _=>none
 have r1:RelP nt pin E0 E1 (pf.put u jP) (fr.put u (.v (.slice (some ⟨E.H.n,0,some 1⟩) n n))):=
  r.set hu hpin ok.gk_push (fun s _ _=>ok.stay_push fun _=>rfl) ok.since_push ok.push.wf ok.push.fresh zfY fun s hs=>by simp[jP,zam]at hs
 have r2:=r1.set (fv:=.v (.slice (some ⟨E.H.n,0,some 1⟩) n n)) (y:=jP) hu hpin (zgs (a:=(u,[]))) (fun s _ hs=>zhN hs) ziC ok.push.fz.wf ok.push.fz.fresh zfY fun s hs=>by simp[jP,zam]at hs
 have e1:(fr.put u (.v (.slice (some ⟨E.H.n,0,some 1⟩) n n))).put u (.v (.slice (some ⟨E.H.n,0,some 1⟩) n n))=fr.put u (.v (.slice (some ⟨E.H.n,0,some 1⟩) n n)):=by
  funext t;simp only[FR.put];split<;>rfl
 have e2:(pf.put u jP).put u jP=pf.put u jP:=by
  funext t;simp only[PFr.put];split
  ·rfl
  ·by_cases h2:zam (pf t)=some u
   ·rw[show zbZ u (pf t)=jP from if_pos h2];simp[zbZ,jP,zam]
   ·rw[show zbZ u (pf t)=pf t from if_neg h2,show zbZ u (pf t)=pf t from if_neg h2]
 rw[e1,e2]at r2;refine⟨_,r2,rfl,.inr ⟨[],by simpa using zge⟩,fun s hs hsu id q h1 h2=>?_⟩;obtain⟨a1,a2,a3⟩:=(ok.stay_push (bl:=⟨true,cs⟩) (n:=(u,[])) (f:=fun _=>none) (a:=(s,[])) fun _=>rfl:MoveOK E E1 (some (s,[])) (some (s,[]))) id q h1 h2;obtain⟨b1,b2,b3⟩:=(zhN (E:=E1) (a:=(u,[])) (c:=(s,[])) hsu) id q a1 a2;exact⟨b1,b2,b3.trans a3⟩
theorem zvb(r:RelP c.nt pin E0 E pf fr)(hp:PinOK c pin){i:Operand}{y:PF×PFr}(ho:o.op=.indexAddr t x i)(hy:zpL P t x i pf=some y)(h:zbr c K o.dst y.1 y.2)
(hk:∀pf' fr' E',K pf'→RelP c.nt pin E0 E' pf' fr'→K' fr' E'.H):aop P c.nt o K' fr E.H:=by
 unfold zpL at hy;split at hy
 ·rename_i u;unfold zq0 at hy;split at hy
  ·rename_i s p i' j n k q hpu hq;split at hy
   ·rename_i hc;obtain⟨hes,hq0,hqn⟩:=hc;simp only[Option.some.injEq]at hy;subst hy;have hf:=r.f u;rw[hpu]at hf;obtain⟨vs,h1,h2,h3⟩:=hf
    have hu:u<c.nt:=by
     rcases Nat.lt_or_ge u c.nt with h4|h4
     ·exact h4
     ·have:=r.hi u h4;rw[hpu]at this;cases this
    have hs:=r.rt u s (by rw[hpu];rfl);obtain⟨e,g,rr,he,hz⟩:=znN hes;obtain⟨E',r',eH,hG,hm⟩:=r.matJ hu h1;have hlt:q.toNat<vs.length:=by omega
    have hw:=h3 q.toNat _ (List.getElem?_eq_getElem hlt)
    have hsu:s≠u:=by
     rintro rfl;rcases hw with⟨w,g1,_⟩|⟨cc,_,_,_,g1,_⟩<;>rw[h1]at g1<;>cases g1
    have hw':Wk E' (fr.put u (.v (.slice (some ⟨E.H.n,0,some 1⟩) n n))) s (p++[(i',j+q.toNat)]) vs[q.toNat]:=
     hw.keep (KL.of_move (hm s hs hsu)) (Nat.le_refl _) (by simp[FR.put,hsu])
    unfold aop;rw[ho];right;refine⟨u,n,1,vs,k,q,e,g,rr,rfl,h1,zcS r hq,he,hz,⟨hq0,hqn⟩,?_⟩;rw[←eH];refine zb1 r' hp (y:=.as true s p i' (j+q.toNat) 1) rfl hs ⟨E.H.n,q.toNat*1,⟨true,vs⟩,vs[q.toNat],rfl,hG,by rw[eH];simp[AH.push],by simp[hlt],hw'⟩ h hk
   ·cases hy
  ·cases hy
 ·cases hy
theorem zr8(r:RelP c.nt pin E0 E pf fr)(hp:PinOK c pin){i:Operand}(ho:o.op=.indexAddr t x i)(h:zkF P c t x i o.dst K pf)
(hk:∀pf' fr' E',K pf'→RelP c.nt pin E0 E' pf' fr'→K' fr' E'.H):aop P c.nt o K' fr E.H:=by
 unfold zkF at h;split at h
 case h_2=>
  split at h
  ·rename_i y hy;exact zvb r hp ho hy h hk
  ·cases h
 rename_i ad had;have hput:=h;unfold ixE at had;split at had
 ·rename_i es0 hes;simp only[Option.bind_eq_some_iff]at had;obtain⟨sb,hsb,hix⟩:=had;unfold ixS at hix;split at hix
  ·rename_i q j hj;have hji:=zcS r hj;obtain⟨v,hrd,hok⟩:=zw6 r hsb;obtain⟨e,g,rr,he,hz⟩:=znN hes;unfold aop;rw[ho];left;cases sb with
   |own s p lo n es=>
    simp only[zo6]at hix;split at hix
    ·rename_i hb;obtain⟨rfl,hb1,hb2⟩:=hb;simp only[Option.some.injEq]at hix;subst hix;obtain⟨hs,hok⟩:=hok;rcases hok with hok|⟨id,off,m,cc,cw,w1,w2,w3,w4,rfl⟩
     ·omega
     ·simp only[zcV,hrd,hji,he,hz];rw[if_pos ⟨trivial,hb1,hb2⟩];refine zhL r hp (ad:=.pl s p (lo+j.toNat) 0) ⟨hs,.inr ⟨_,id,_,w1,.sl (j:=0) w2 w3 (by omega),?_⟩⟩ hput hk;rw[Nat.add_mul,Nat.add_zero,Nat.add_assoc]
    ·cases hix
   |fz es rows=>
    simp only[zo6]at hix;split at hix
    ·rename_i hb;obtain⟨rfl,hb1⟩:=hb;simp only[Option.map_eq_some_iff]at hix;obtain⟨row,hrow,rfl⟩:=hix;have hlt:j.toNat<rows.length:=(List.getElem?_eq_some_iff.1 hrow).1;cases hok with
     |sl0 _ _=>simp at hlt
     | @slS _ id off es n cc k rows hG hb hn hc hm hr hl hh=>
      simp only[zcV,hrd,hji,he,hz];rw[if_pos ⟨trivial,hb1,by omega⟩];refine zhL r hp (ad:=.fz row) ⟨_,rfl,.fp hG hb ?_ fun q x y g1 g2=>hh j.toNat row q x y hrow g1 g2⟩ hput hk;have hr0:=hr row (List.mem_of_getElem? hrow);have h5:(j.toNat+1)*es≤n*es:=Nat.mul_le_mul_right _ (by omega);rw[Nat.succ_mul]at h5;omega
    ·cases hix
  ·cases hix
 ·rename_i hes;split at had
  ·rename_i len es ha;simp only[Option.bind_eq_some_iff]at had;obtain⟨ad,had,hix⟩:=had;unfold ixA at hix;split at hix
   ·rename_i q j hj;split at hix
    ·rename_i hb;have hji:=zcS r hj;obtain⟨fv,hrd,hok⟩:=ziS r had;obtain⟨e,g,rr,he,hz⟩:=zxl ha;unfold aop;rw[ho];left;rcases zng hok hix with⟨t',of,rfl,h2⟩|⟨id,of,rfl,h2⟩
     ·simp only[zcV,hrd,hji,he,hz];rw[if_pos hb];exact zhL r hp h2 hput hk
     ·simp only[zcV,hrd,hji,he,hz];rw[if_pos hb];exact zhL r hp h2 hput hk
    ·cases hix
   ·cases hix
  ·cases had
end
end Go.Pm
