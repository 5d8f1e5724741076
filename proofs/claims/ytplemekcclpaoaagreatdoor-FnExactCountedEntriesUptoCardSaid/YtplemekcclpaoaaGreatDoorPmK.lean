import Derived.Test.YtplemekcclpaoaaGreatDoorPmJ
namespace Go.Pm
set_option linter.unusedSimpArgs false
open Go.Am
def exR(s:Nat):PF→Option (Nat×List PV)
 | .v (.tup xs)=>some (s,xs)
 |_=>none
def exO(pf:PFr):Operand→Option (Nat×List PV)
 | .tmp t=>match pf t with
  | .rf s []=>exR s (pf s)
  |y=>exR t y
 |_=>none
def pex(c:Cfg)(i:Nat)(d:Option Tmp)(K:PFr→Prop)(pf:PFr)(s:Nat)(xs:List PV):Option PV→Prop
 |some y=>isJ y=false∧if zaC y=true then zbr c K d (.v y) ((pf.upd s (.v (.tup (xs.set i .junk)))).kill s 1)else zbr c K d (.v y) pf
 |none=>False
def ziE(c:Cfg)(x:Operand)(i:Nat)(d:Option Tmp)(K:PFr→Prop)(pf:PFr):Prop:=
 match exO pf x with
 |some (s,xs)=>s<c.nt∧pex c i d K pf s xs xs[i]?
 |none=>False
def ez(P:Program)(t:TypeId):Option (Nat×Nat×List PV):=(zaw P t).bind fun e=>(tsz P e).bind fun z=>if(decide (z.2.2.2.length=z.2.1)&&decide (z.2.1≠0)&&z.2.2.2.all zai)=true then some (z.2.1,z.2.2.1,(zz P e z.2.2.2).map dz)else none
def ezz(P:Program)(t:TypeId):Option (Nat×Nat×List Value):=(zaw P t).bind fun e=>(tsz P e).map fun z=>z.2
def zvn(c:Cfg)(d:Option Tmp)(K:PFr→Prop)(pf:PFr)(z:Nat×Nat×List PV):Option Value→Option Value→Prop
 |some (.int .i64 n),some (.int .i64 m)=>(0≤n∧n≤m∧z.2.1*m≤140737488355328∧m≤4611686018427387904)∧
  zbr c K d (.v (.sl true z.1 (List.replicate n.toNat (uz (nzB c d) z.2.2)))) pf
 |_,_=>False
def zmS(P:Program)(c:Cfg)(t:TypeId)(l cc:Operand)(d:Option Tmp)(K:PFr→Prop)(pf:PFr):Prop:=
 match ez P t with
 |some z=>zvn c d K pf z (rdS pf l) (rdS pf cc)
 |none=>False
def lenV:PV→Option (List (List PV))
 | .sl _ _ rows=>some rows
 |_=>none
def lsM(pf:PFr)(t:Nat):PF→PFr
 | .ls es rows=>(pf.upd t (.v (.sl true es rows))).kill t 0
 |_=>pf
def zn2(P:Program)(c:Cfg)(t:TypeId)(x:Operand)(d:Option Tmp)(K:PFr→Prop)(pf:PFr):Prop:=
 match x with
 | .tmp t'=>match(zaw P t).bind fun _=>(za9 (lsM pf t' (pf t')) (lsM pf t' (pf t') t')).bind lenV with
  |some rows=>rows.length≤zcx→zbr c K d (.v (.int .i64 rows.length)) (lsM pf t' (pf t'))
  |none=>False
 |_=>False
def slC(pf:PFr):PF→Option (List (List PV))
 | .v (.sl _ _ rows)=>some rows
 | .rf s p=>match zaz pf s p with
  |some (.sl _ _ rows)=>some rows
  |_=>none
 |_=>none
def zyc(pf:PFr):Operand→Option (List (List PV))
 | .tmp t=>slC pf (pf t)
 |_=>none
def zle(P:Program)(c:Cfg)(op:BinOp)(t:TypeId)(x:Operand)(d:Option Tmp)(K:PFr→Prop)(pf:PFr):Prop:=
 match d,x,zrS op,zyc pf x with
 |some d,.tmp _,some q,some rows=>(zaw P t).isSome=true∧∀b,(rows≠[]→b= !q)→zbr c K (some d) (.v (.bool b)) pf
 |_,_,_,_=>False
def rdB(pf:PFr):Option Operand→Option (Option Nat)
 |none=>some none
 |some x=>(rdS pf x).bind fun
  | .int _ n=>if 0≤n then some (some n.toNat)else none
  |_=>none
def slV(es0 l:Nat)(h:Option Nat)(y:Nat→Nat→PF):PV→Option PF
 | .sl true es rows=>if es=es0∧l≤h.getD rows.length∧h.getD rows.length≤rows.length then some (y l (h.getD rows.length))else none
 | .sl false es rows=>if es=es0∧l≤h.getD rows.length∧h.getD rows.length≤rows.length then some (.v (.sl false es ((rows.take (h.getD rows.length)).drop l)))else none
 |_=>none
def slW(es0 l:Nat)(h:Option Nat)(s:Nat)(p:zad)(lo hi:Nat):PV→Option PF
 | .sl true es rows=>if(es=es0∧lo≤hi∧hi≤rows.length)∧l≤h.getD (hi-lo)∧h.getD (hi-lo)≤hi-lo then some (.rv s p (lo+l) (lo+h.getD (hi-lo)))else none
 | .sl false es rows=>if(es=es0∧lo≤hi∧hi≤rows.length)∧l≤h.getD (hi-lo)∧h.getD (hi-lo)≤hi-lo then some (.v (.sl false es ((rows.take (lo+h.getD (hi-lo))).drop (lo+l))))else none
 |_=>none
def slF(es0 l:Nat)(h:Option Nat)(pf:PFr)(t:Nat):PF→Option PF
 | .v x=>slV es0 l h (fun a b=>.rv t [] a b) x
 | .rf s p=>(zaz pf s p).bind (slV es0 l h fun a b=>.rv s p a b)
 | .rv s p lo hi=>(zaz pf s p).bind (slW es0 l h s p lo hi)
 |_=>none
def zpk(c:Cfg)(es:Nat)(t:Nat)(d:Option Tmp)(K:PFr→Prop)(pf:PFr)(l h m:Option (Option Nat)):Prop:=
 match l,h,m with
 |some l,some h,some none=>match slF es (l.getD 0) h pf t (pf t)with
  |some y=>zbr c K d y pf
  |none=>False
 |some l,some (some h),some (some m)=>match(za9 pf (pf t)).bind lenV with
  |some rows=>(l.getD 0=h∧h=m∧m≤rows.length)∧(∃y,slF es (l.getD 0) (some h) pf t (pf t)=some y)∧zbr c K d (.v (.sl true es [])) pf
  |none=>False
 |_,_,_=>False
def zks(P:Program)(c:Cfg)(ty:TypeId)(x:Operand)(l h m:Option Operand)(d:Option Tmp)(K:PFr→Prop)(pf:PFr):Prop:=
 match x,esz P ty with
 | .tmp t,some es=>zpk c es t d K pf (rdB pf l) (rdB pf h) (rdB pf m)
 |_,_=>False
def zvp(c:Cfg)(d:Option Tmp)(K:PFr→Prop)(pf:PFr)(x y:Operand):Option Value→Prop
 |some (.bool true)=>match(rdS pf x).bind zeQ with
  |some v=>zbr c K d (.v v) pf
  |none=>False
 |some (.bool false)=>match(rdS pf y).bind zeQ with
  |some v=>zbr c K d (.v v) pf
  |none=>False
 |_=>False
def zmJ(c:Cfg)(b x y:Operand)(d:Option Tmp)(K:PFr→Prop)(pf:PFr):Prop:=zvp c d K pf x y (rdS pf b)
section
variable {nt:Nat}{pin:List (Nat×Value)}{E0 E E':Env}{pf:PFr}{fr fr':FR}{c:Cfg}{P:Program}
variable{K:PFr→Prop}{K':FR→AH→Prop}{o:Oper}{t:TypeId}{x:Operand}
theorem zw4(r:RelP nt pin E0 E pf fr){s:Nat}{xs:List PV}(h:exO pf x=some (s,xs)):∃v,pf s=.v (.tup xs)∧fr s=.v v∧PR E (some (s,[])) (.tup xs) v∧∀H,mat fr H x=some (v,fr,H):=by
 have key:∀{s0:Nat}{y:PF},exR s0 y=some (s,xs)→s0=s∧y=.v (.tup xs):=by
  intro s0 y h;unfold exR at h;split at h
  ·cases h;exact⟨rfl,rfl⟩
  ·cases h
 cases x with
 |tmp t=>
  simp only[exO]at h;split at h
  ·rename_i s0 hpt;obtain⟨rfl,hs⟩:=key h;have hf:=r.f t;rw[hpt]at hf;obtain⟨v,h1,h2⟩:=hf;have hv:=zjm h2;have hg:=r.f s0;rw[hs]at hg;obtain⟨v',g1,g2⟩:=zcl hg (by simp);rw[hv]at g1;cases g1;exact⟨v,hs,hv,g2,fun H=>by simp[mat,h1]⟩
  ·obtain⟨rfl,hs⟩:=key h;have hg:=r.f t;rw[hs]at hg;obtain⟨v',g1,g2⟩:=zcl hg (by simp);exact⟨v',hs,g1,g2,fun H=>by simp[mat,g1]⟩
 |_=>simp[exO]at h
theorem zpC(r:RelP c.nt pin E0 E pf fr)(hp:PinOK c pin){i:Nat}(ho:o.op=.extract x i)(h:ziE c x i o.dst K pf)
(hk:∀pf' fr' E',K pf'→RelP c.nt pin E0 E' pf' fr'→K' fr' E'.H):aop P c.nt o K' fr E.H:=by
 obtain⟨d,op,ty,ps,af,g⟩:=o;simp only at ho h;subst ho;unfold ziE at h;split at h
 ·rename_i s xs hex;obtain⟨hs,h⟩:=h;unfold pex at h;split at h
  ·rename_i y hy;obtain⟨hj,h⟩:=h;obtain⟨v,hps,hfs,hpr,hmat⟩:=zw4 r hex;cases hpr with
   | @tup _ _ ys hl h0 hh=>
   have hi:i<ys.toList.length:=by have:=(List.getElem?_eq_some_iff.1 hy).1;omega
   have hyi:=List.getElem?_eq_getElem hi;have hcomp:=hh i y _ hy hyi;refine zjc (P:=P) (op:=.extract x i) rfl (hmat _) (w:=ys.toList[i]) (by simp only[zaP];exact hyi) ?_;split at h
   ·
    have hrl:∀t:Nat,t≠s→∀q:zad,rlW (s,[(0,i)]) (c.nt,[(0,0)]) (t,q)=none:=fun t ht q=>zdq ht
    have r1:RelP c.nt pin E0 (E.rl (rlW (s,[(0,i)]) (c.nt,[(0,0)]))) ((pf.upd s (.v (.tup (xs.set i .junk)))).kill s 1) fr:=by
     refine r.chg hs zba (fun t ht hts=>zbN fun q=>hrl t hts _) (fun L hL=>⟨fun id q g1 g2 g3=>?_,fun id q g1 g2 g3=>rfl⟩) (fun _ _=>rfl) (fun _=>.inl rfl) zcM r.ok.rl.wf r.ok.rl.fresh (fun _ _ h1 h2=>.inl (by rw[h1]at h2;cases h2;rfl)) ?_ rfl r.pin
     ·have:q=[]:=List.eq_nil_of_length_eq_zero (by omega);subst this;exact⟨by simp[Env.rl,g1,rlW],g2⟩
     ·refine ze2 hfs (.tup (by simpa using hl) (by intro e;exact h0 (by simpa using e)) fun j x y g1 g2=>?_);rw[List.getElem?_set]at g1;by_cases e:i=j
      ·subst e;rw[if_pos rfl]at g1;split at g1
       ·cases g1;exact .junk y
       ·cases g1
      ·rw[if_neg e]at g1;refine(hh j x y g1 g2).move zba (zbN fun q=>?_);simp[rlW,chl,Lo.ch,e]
    exact za6 r1 hp (hcomp.move zba (zcJ fun q=>by simpa[chl]using zfq (s,[(0,i)]) (c.nt,[(0,0)]) q)) h hk
   ·rename_i ho;exact za6 r hp ((hcomp.free (by simpa using ho)).up) h hk
  ·cases h
 ·cases h
theorem zlr{es:Nat}:∀{ess:List (List Value)}(_:∀e,e∈ess→e.length=es) {i j:Nat}{e:List Value},ess[i]? =some e→j<es→ess.flatten[i*es+j]? =e[j]? :=by
 intro ess;induction ess with
 |nil=>intro _ i j e h;simp at h
 |cons a l ih=>
  intro hl i j e h hj;have ha:=hl a (List.mem_cons_self ..);rw[List.flatten_cons];cases i with
  |zero=>
   simp at h;subst h;rw[Nat.zero_mul,Nat.zero_add,List.getElem?_append_left (by omega)]
  |succ i=>
   rw[List.getElem?_append_right (by rw[ha,Nat.succ_mul];omega),ha];have:=ih (fun e he=>hl e (List.mem_cons_of_mem _ he)) (i:=i) (by simpa using h) hj;rw[←this];congr 1;rw[Nat.succ_mul];omega
theorem ziB{es:Nat}:∀{ess:List (List Value)}(_:∀e,e∈ess→e.length=es),ess.flatten.length=ess.length*es:=by
 intro ess;induction ess with
 |nil=>intro _;simp
 |cons a l ih=>
  intro h;rw[List.flatten_cons,List.length_append,h a (List.mem_cons_self ..),ih (fun e he=>h e (List.mem_cons_of_mem _ he)),List.length_cons,Nat.succ_mul];omega
theorem ziw{x:Nat×Nat×List PV}(h:ez P t=some x):∃e g es b z,zaw P t=some e∧tsz P e=some (g,es,b,z)∧z.length=es∧es≠0∧z.all zai=true∧x=(es,b,(zz P e z).map dz):=by
 simp only[ez,Option.bind_eq_some_iff]at h;obtain⟨e,he,⟨g,es,b,z⟩,hz,h⟩:=h;split at h
 ·rename_i hc;simp only[Bool.and_eq_true,decide_eq_true_eq]at hc;simp only[Option.some.injEq]at h;exact⟨e,g,es,b,z,he,hz,hc.1.1,hc.1.2,hc.2,h.symm⟩
 ·cases h
theorem zs7(r:RelP c.nt pin E0 E pf fr)(hp:PinOK c pin){l cc:Operand}(ho:o.op=.makeSlice t l cc)(h:zmS P c t l cc o.dst K pf)
(hk:∀pf' fr' E',K pf'→RelP c.nt pin E0 E' pf' fr'→K' fr' E'.H):aop P c.nt o K' fr E.H:=by
 unfold zmS at h;split at h
 ·rename_i z hz;obtain⟨e,g,es,b,zc,he,ht,h5,h6,h7,rfl⟩:=ziw hz;unfold zvn at h;split at h
  ·rename_i n m hn hm;obtain⟨⟨h1,h2,h3,h4⟩,h8⟩:=h;simp only at h3 h8;unfold aop;rw[ho];simp only[he,zcS r hn,zcS r hm,ht];rw[if_pos ⟨h1,h2,h3,h4,h5,h6,h7⟩];have ok:=r.ok;have hrep:∀e,e∈List.replicate m.toNat zc→e.length=es:=fun e he=>by rw[(List.mem_replicate.1 he).2];exact h5
   have hpr:PR (E.push ⟨true,(List.replicate m.toNat zc).flatten⟩ (c.nt,[(0,0)]) fun _=>none) (some (c.nt,[(0,0)])) (.sl true es (List.replicate n.toNat (uz (nzB c o.dst) ((zz P e zc).map dz)))) (.slice (some ⟨E.H.n,0,some es⟩) n.toNat m.toNat):=by
    refine .slO zge ok.newG zfX rfl (by simp) (by omega) (by unfold zcx;omega) (fun rw hr=>by rw[(List.mem_replicate.1 hr).2,zlV];exact h5) ⟨⟨h6,rfl⟩,?_⟩ fun i rw j x y g1 g2 g3=>?_
    ·rw[Nat.zero_add,ziB hrep];simp
    ·rw[Nat.zero_add]at g3;have hi:i<n.toNat:=by have:=(List.getElem?_eq_some_iff.1 g1).1;simpa using this
     have hrw:=(List.mem_replicate.1 (List.mem_of_getElem? g1)).2;subst hrw;have hj:j<es:=by have:=(List.getElem?_eq_some_iff.1 g2).1;rw[zlV]at this;omega
     rw[zlr hrep (e:=zc) (by rw[List.getElem?_replicate,if_pos (by omega)]) hj]at g3;exact zlt h7 (fun _=>some (chl (c.nt,[(0,0)]) i j)) j x y g2 g3
   have:=za6 (K':=K') (r.env ok.push ok.since_push fun s _=>ok.stay_push fun _=>rfl) hp hpr h8 hk;exact this
  ·cases h
 ·cases h
theorem znw(r:RelP nt pin E0 E pf fr){t:Nat}{rows:List (List PV)}(h:(za9 pf (pf t)).bind lenV=some rows):∃p cc,fr t=.v (.slice p rows.length cc)∧rows.length≤zcx:=by
 obtain⟨x,hx,hl⟩:=Option.bind_eq_some_iff.1 h
 have inv:∀{l:Lo}{o:Bool}{es:Nat}{rows:List (List PV)}{v:Value},PR E l (.sl o es rows) v→∃p cc,v=.slice p rows.length cc∧rows.length≤zcx:=by
  intro l o es rows v h;generalize hx:PV.sl o es rows=x at h;cases h with
  |sl0 o es=>cases hx;exact⟨none,0,rfl,Nat.zero_le _⟩
  |slS hG hb hn hc hm hr hl h=>cases hx;exact⟨_,_,by rw[hn],by rw[hn];exact hm⟩
  |slO how hG hb hrw hn hc hm hr hl h=>cases hx;exact⟨_,_,by rw[hn],by rw[hn];exact hm⟩
  |_=>cases hx
 have hf:=r.f t;cases x with
 |sl o es rows'=>
  simp only[lenV,Option.some.injEq]at hl;subst hl;cases hpt:pf t with
  |v x=>
   rw[hpt]at hx hf;simp only[za9,Option.some.injEq]at hx;subst hx;obtain⟨v,h1,h2⟩:=zcl hf (by simp);obtain⟨p,cc,rfl,h3⟩:=inv h2;exact⟨p,cc,h1,h3⟩
  |rf s p=>
   rw[hpt]at hx hf;simp only[za9]at hx;obtain⟨v,h1,h2⟩:=hf;obtain⟨v',w1,w2⟩:=r.at hx (by simp) (zbc r h2 hx);have:=w1.same h2;subst this;obtain⟨p,cc,rfl,h3⟩:=inv w2;exact⟨p,cc,h1,h3⟩
  |rv s p lo hi=>
   rw[hpt]at hx hf;obtain⟨y,hy,hcut⟩:=Option.bind_eq_some_iff.1 hx;unfold zmU at hcut;split at hcut
   ·rename_i o' es' rows2;split at hcut
    ·rename_i hb;simp only[Option.some.injEq,PV.sl.injEq]at hcut;obtain⟨rfl,rfl,rfl⟩:=hcut;rcases hf with⟨h1,h2,rfl,rfl⟩|⟨id,off,es',n,cc,h1,h2,h3,h4⟩
     ·exact⟨none,0,by simpa using h2,by simp⟩
     ·obtain⟨v',w1,w2⟩:=r.at hy (by simp) (zbc r h1 hy);have:=w1.same h1;subst this;obtain⟨p,cc',e1,e2⟩:=inv w2;cases e1;have:((rows2.take hi).drop lo).length=hi-lo:=by simp;omega
      rw[this];exact⟨_,_,h4,by omega⟩
    ·cases hcut
   ·cases hcut
  |ra s p i j n=>
   rw[hpt]at hx;simp only[za9,Option.bind_eq_some_iff]at hx;obtain⟨row,_,hra⟩:=hx;unfold zi7 at hra;split at hra<;>cases hra
  |_=>rw[hpt]at hx;simp[za9]at hx
 |_=>simp[lenV]at hl
theorem zvu(r:RelP nt pin E0 E pf fr){t:Nat}{rows:List (List PV)}(h:slC pf (pf t)=some rows):(fr t=.v (.slice none 0 0)∧rows=[])∨∃a n cc,fr t=.v (.slice (some a) n cc):=by
 have inv:∀{l:Lo}{o:Bool}{es:Nat}{rows:List (List PV)}{v:Value},PR E l (.sl o es rows) v→(v=.slice none 0 0∧rows=[])∨∃a n cc,v=.slice (some a) n cc:=by
  intro l o es rows v h;generalize hx:PV.sl o es rows=x at h;cases h with
  |sl0 o es=>cases hx;exact .inl ⟨rfl,rfl⟩
  |slS hG hb hn hc hm hr hl h=>cases hx;exact .inr ⟨_,_,_,rfl⟩
  |slO how hG hb hrw hn hc hm hr hl h=>cases hx;exact .inr ⟨_,_,_,rfl⟩
  |_=>cases hx
 have hf:=r.f t;unfold slC at h;split at h
 ·rename_i o es rows' hpt;cases h;rw[hpt]at hf;obtain⟨v,h1,h2⟩:=zcl hf (by simp);rcases inv h2 with⟨rfl,h3⟩|⟨a,n,cc,rfl⟩
  ·exact .inl ⟨h1,h3⟩
  ·exact .inr ⟨a,n,cc,h1⟩
 ·rename_i s p hpt;split at h
  ·rename_i o es rows' hx;cases h;rw[hpt]at hf;obtain⟨v,h1,h2⟩:=hf;obtain⟨v',w1,w2⟩:=r.at hx (by simp) (zbc r h2 hx);have:=w1.same h2;subst this;rcases inv w2 with⟨rfl,h3⟩|⟨a,n,cc,rfl⟩
   ·exact .inl ⟨h1,h3⟩
   ·exact .inr ⟨a,n,cc,h1⟩
  ·cases h
 ·cases h
theorem zs6(r:RelP c.nt pin E0 E pf fr)(hp:PinOK c pin){op:BinOp}{y:Operand}{u:TypeId}(ho:o.op=.binOp op t x y u)(hy:zhi y=true)(h:zle P c op t x o.dst K pf)
(hk:∀pf' fr' E',K pf'→RelP c.nt pin E0 E' pf' fr'→K' fr' E'.H):ahp P c.nt o K' fr E.H:=by
 unfold zle at h;split at h
 ·rename_i d t' q rows hd hq hr;obtain⟨h1,h2⟩:=h
  have putb:∀b,zbr c K (some d) (.v (.bool b)) pf→d<c.nt∧K' (fr.put d (.v (.bool b))) E.H:=by
   intro b hb;have:=za6 (E:=E) r hp (.bool b) hb hk;simpa[zar]using this
  have hd0:d<c.nt:=(putb (!q) (h2 (!q) fun _=>rfl)).1;unfold ahp;rw[ho,hd];refine⟨⟨hd0,hy,h1⟩,?_⟩;simp only[hq];rcases zvu r hr with⟨e1,e2⟩|⟨a,n,cc,e1⟩
  ·simp only[rdv,e1];exact fun b=>(putb b (h2 b fun hh=>absurd e2 hh)).2
  ·simp only[rdv,e1];exact(putb (!q) (h2 (!q) fun _=>rfl)).2
 ·cases h
theorem zve(r:RelP c.nt pin E0 E pf fr)(hp:PinOK c pin){args:Array Operand}(ho:o.op=.call ⟨.builtin .len,args,#[t]⟩)(ha:args.toList=[x])(h:zn2 P c t x o.dst K pf)
(hk:∀pf' fr' E',K pf'→RelP c.nt pin E0 E' pf' fr'→K' fr' E'.H):aop P c.nt o K' fr E.H:=by
 obtain⟨d,op,ty,ps,af,g⟩:=o;simp only at ho h;subst ho;unfold zn2 at h;split at h
 ·rename_i t';split at h
  ·rename_i rows hr;obtain⟨e,he,hr⟩:=Option.bind_eq_some_iff.1 hr
   have key:∃v0 fr1 E1,mat fr E.H (.tmp t')=some (v0,fr1,E1.H)∧fr1 t'=.v v0∧RelP c.nt pin E0 E1 (lsM pf t' (pf t')) fr1:=by
    cases hpt:pf t' with
    |ls es rows0=>
     have ht:t'<c.nt:=by
      rcases Nat.lt_or_ge t' c.nt with h1|h1
      ·exact h1
      ·have:=r.hi t' h1;rw[hpt]at this;cases this
     obtain⟨v,fr1,E1,m1,m2,m3,_,_⟩:=r.mater ht hpt;exact⟨v,fr1,E1,m1,m2,m3⟩
    |_=>
     have hr':=hr;rw[hpt]at hr';simp only[lsM]at hr';obtain⟨p,cc,h1,h2⟩:=znw r hr';exact⟨_,fr,E,by simp only[mat,h1],h1,by simpa[lsM]using r⟩
   obtain⟨v0,fr1,E1,m1,m2,r1⟩:=key;obtain⟨p,cc,h1,h2⟩:=znw r1 hr;rw[m2]at h1;cases h1;have hK:=za6 r1 hp (.int .i64 (rows.length:Int)) (h h2) hk;exact zjc (P:=P) (op:=.call ⟨.builtin .len,args,#[t]⟩) (x:=.tmp t') (by simp[zaJ,ha]) m1 (w:=.int .i64 rows.length) (by simp[zaP,Am.lenV,he]) hK
  ·cases h
 ·cases h
theorem zsJ(r:RelP c.nt pin E0 E pf fr)(hp:PinOK c pin){b y:Operand}(ho:o.op=.pick b x y)(h:zmJ c b x y o.dst K pf)
(hk:∀pf' fr' E',K pf'→RelP c.nt pin E0 E' pf' fr'→K' fr' E'.H):aop P c.nt o K' fr E.H:=by
 unfold zmJ zvp at h;unfold aop;rw[ho];simp only;split at h
 ·rename_i hb;rw[zcS r hb];split at h
  ·rename_i v hv;obtain⟨w,h1,h2⟩:=Option.bind_eq_some_iff.1 hv;simp only[zcS r h1];exact za6 r hp (zmp h2) h hk
  ·cases h
 ·rename_i hb;rw[zcS r hb];split at h
  ·rename_i v hv;obtain⟨w,h1,h2⟩:=Option.bind_eq_some_iff.1 hv;simp only[zcS r h1];exact za6 r hp (zmp h2) h hk
  ·cases h
 ·cases h
end
end Go.Pm
