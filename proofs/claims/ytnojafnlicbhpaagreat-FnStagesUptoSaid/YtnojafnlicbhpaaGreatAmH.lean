import Derived.Test.YtnojafnlicbhpaaGreatAmG
open Option renaming none→ae,some→J
open Bool renaming true→Z
set_option linter.defProp false
namespace Go.Am
def nr:=@List.mem_replicate
def nT:=@Nat.mod_eq_of_lt
def rc:=@List.append_nil
def Gt:=@List.flatten_cons
def Kt:=@Nat.one_mul
def Ku:=@List.mem_flatten
def T7:=@List.flatten_append
def T8:=@List.length_flatten
def Aam:=@List.range_add
def Ab7:=@Array.toList_append
section
variable {c:qU}{m:Mu}{fr:FR}{H:AH}{a:Act}{w:World}{P:Program}{K:FR->AH->Prop}{next:Act->World->Prop}
variable{Q:Exit->Act->World->Prop}{d:Option Tmp}{o:Oper}{y:Value}
def nM{x:Value}(h:bB c.nt K d (.v x) fr H)(r:aX c m fr H a w)(hv:V m x y)
(hn:∀m' ai H' a' w',K ai H'->aX c m' ai H' a' w'->next a' w'):next (a.put d y) w:=by
 cases d with
 |none=>exact hn m fr H a w h r
 |some d=>
  simp only[bB]at h;split at h
  ·exact hn _ _ _ _ _ h (r.yU ‹_› hv)
  ·cases h
def N4(h:bB c.nt K d .skip fr H)(r:aX c m fr H a w)
(hn:∀m' ai H' a' w',K ai H'->aX c m' ai H' a' w'->next a' w'):next (a.put d undef) w:=by
 cases d with
 |none=>exact hn m fr H a w h r
 |some d=>
  simp only[bB]at h;split at h
  ·exact hn _ _ _ _ _ h (r.Ab2 ‹_›)
  ·cases h
def V7{x:FV}(h:bB c.nt K d x fr H)(r:aX c m fr H a w)(hv:VA m fr a.tmps x y)
(hn:∀m' ai H' a' w',K ai H'->aX c m' ai H' a' w'->next a' w'):next (a.put d y) w:=by
 cases x with
 |v x=>exact nM h r hv hn
 |lp s off=>
  cases d with
  |none=>exact hn m fr H a w h r
  |some d=>
   simp only[bB]at h;split at h
   ·obtain⟨cells,b,h1,h2,h3⟩:=hv;exact hn _ _ _ _ _ h (r.Aba ‹_› λ_ _=>⟨b,h2,h3⟩)
   ·cases h
 |skip=>cases hv
 |loc _=>cases hv
 |ls _ _ _=>cases hv
def QP{id off:Nat}(h:V m (.pointer (J ⟨id,off,ae⟩)) y):id<m.n/\y=.pointer (J ⟨(m.f id).bq,(m.f id).base+off,ae⟩):=by
 cases h with
 |ptr bY=>exact⟨bY,rfl⟩
def Ar{k:IntKind}{n:Int}(h:V m (.int k n) y):y=.int k n:=by cases h;rfl
def Kg{b:Bool}(h:V m (.bool b) y):y=.bool b:=by cases h;rfl
def U4{s:TypeId}{f o sz b p:Nat}(h:du P s f=J (o,sz)):(Instr.fieldAt s (.pointer (J ⟨b,p,ae⟩)) f).run P w=.ok (.pointer (J ⟨b,p+o,ae⟩)) w:=by
 unfold du at h;split at h
 ·rename_i jX hu;split at h
  ·rename_i fd hf;split at h
   ·rename_i i hi;split at h
    ·cases h
    ·cases h;rename_i hz;have eA:(sizeOf fd.type).run P w=.ok i.size w:=by simp[sizeOf,typeInfo,hi]
     simp[Instr.fieldAt,jy hu,hf,Instr.sureAddr,fieldPlace,eA,hz,vo]
   ·cases h
  ·cases h
 ·cases h
def zwn{x:FV}(h:iu P fr o.op=J x)(r:aX c m fr H a w):∃y,(execOp a.eval o).run P w=.ok (.value y) w/\VA m fr a.tmps x y:=by
 obtain⟨dst,op,ty,pos,af,g⟩:=o;simp only at h;cases op<;>simp only[iu]at h<;>try (cases h;done)
 case nilCheck x=>
  split at h
  ·rename_i ad hx;cases h;have hv:V m (.pointer (J ad)) (a.eval x):=r7 r hx;generalize hy:a.eval x=y at hv;cases hv with
   |ptr bY=>exact⟨_,by simp[execOp,hy],V.ptr bY⟩
  ·rename_i s off hx;cases h;obtain⟨cells,b,h1,h2,h3⟩:=r7 r hx;refine⟨_,?_,⟨cells,b,h1,h2,rfl⟩⟩;simp[execOp,h3]
  ·cases h
 case fieldAddr s x f=>
  split at h
  ·rename_i o sz t off hf hx;cases h;obtain⟨cells,b,h1,h2,h3⟩:=r7 r hx;refine⟨.pointer (J ⟨b,off+o,ae⟩),?_,⟨cells,b,h1,h2,rfl⟩⟩;simp[execOp,h3,U4 hf]
  ·rename_i o sz id off hf hx;cases h;have hv:V m (.pointer (J ⟨id,off,ae⟩)) (a.eval x):=r7 r hx;obtain⟨bY,hy⟩:=QP hv;refine⟨.pointer (J ⟨(m.f id).bq,(m.f id).base+off+o,ae⟩),?_,?_⟩
   ·simp[execOp,hy,U4 hf]
   ·rw[iN];exact V.ptr bY
  ·cases h
 case indexAddr t x i=>
  split at h
  ·rename_i id off bw n cc k j hx hi;split at h
   ·rename_i e he;split at h
    ·rename_i g es dD ht;obtain⟨cz,z⟩:=dD;split at h
     ·rename_i hc;cases h;obtain⟨rfl,h0,hlt⟩:=hc;have hv:V m (.slice (J ⟨id,off,J es⟩) n cc) (a.eval x):=r7 r hx;have hj:=Ar (f8 r hi);obtain⟨_,_,_,_,_,_,_,_,hs⟩:=jB (w:=w) ht;generalize hy:a.eval x=y at hv;cases hv with
      |slice bY k1 k2 k3 k4=>
       rename_i o cap;have qY:0<cap:=by omega
       have ho:=k3 qY;subst ho;refine⟨.pointer (J ⟨(m.f id).bq,(m.f id).base+off+j.toNat*es,ae⟩),?_,?_⟩
       ·simp[execOp,hy,hj,Instr.indexAt,asIntOf,jy (pe he),h0,hlt,hs,vo]
       ·rw[iN];exact V.ptr bY
     ·cases h
    ·cases h
   ·cases h
  ·rename_i s off k j hx hi;split at h
   ·rename_i len e he;split at h
    ·rename_i g es dD ht;obtain⟨cz,z⟩:=dD;split at h
     ·rename_i hc;cases h;obtain⟨h0,hlt⟩:=hc;obtain⟨cells,b,h1,h2,h3⟩:=r7 r hx;have hj:=Ar (f8 r hi);obtain⟨_,_,_,_,_,_,_,_,hs⟩:=jB (w:=w) ht;refine⟨.pointer (J ⟨b,off+j.toNat*es,ae⟩),?_,⟨cells,b,h1,h2,rfl⟩⟩;simp[execOp,h3,hj,Instr.indexAt,asIntOf,jy (SK he),h0,hlt,hs,vo,Instr.sureAddr]
     ·cases h
    ·cases h
   ·cases h
  ·rename_i id off k j hx hi;split at h
   ·rename_i len e he;split at h
    ·rename_i g es dD ht;obtain⟨cz,z⟩:=dD;split at h
     ·rename_i hc;cases h;obtain⟨h0,hlt⟩:=hc;have hv:V m (.pointer (J ⟨id,off,ae⟩)) (a.eval x):=r7 r hx;obtain⟨bY,hy⟩:=QP hv;have hj:=Ar (f8 r hi);obtain⟨_,_,_,_,_,_,_,_,hs⟩:=jB (w:=w) ht;refine⟨.pointer (J ⟨(m.f id).bq,(m.f id).base+off+j.toNat*es,ae⟩),?_,?_⟩
      ·simp[execOp,hy,hj,Instr.indexAt,asIntOf,jy (SK he),h0,hlt,hs,vo,Instr.sureAddr]
      ·rw[iN];exact V.ptr bY
     ·cases h
    ·cases h
   ·cases h
  ·cases h
def Oa(h:dw P c.nt o K fr H)(r:aX c m fr H a w)
(hn:∀m' ai H' a' w',K ai H'->aX c m' ai H' a' w'->next a' w'):o.wp P a w next Q:=by
 unfold dw at h;split at h
 ·rename_i xs ib;split at h
  ·rename_i vs ai H' hm;split at h
   ·rename_i v hv;obtain⟨m',cV,r',j4⟩:=RN r hm;obtain⟨y,hy,hV⟩:=zud (P:=P) (w:=w) ib hv j4;unfold Oper.wp;rw[hy];exact nM h r' hV hn
   ·cases h
  ·cases h
 ·cases h
def Oh(h:match iu P fr o.op with|some x=>bB c.nt K o.dst x fr H|none=>False)(r:aX c m fr H a w)
(hn:∀m' ai H' a' w',K ai H'->aX c m' ai H' a' w'->next a' w'):o.wp P a w next Q:=by
 split at h
 ·rename_i x hx;obtain⟨y,hy,hV⟩:=zwn hx r;unfold Oper.wp;rw[hy];exact V7 h r hV hn
 ·cases h
def zvY{f:Operand}{args:Array Operand}{gY:Array TypeId}(ho:o.op=.call ⟨.value f,args,gY⟩)
(h:match ck fr H args.toList with
   |some (vs,ai,H')=>match be ai f with
    |some (.func (.func g) first kc)=>p6 P g (first.toList++vs++kc.toList) H' λv o4=>bB c.nt K o.dst (.v v) ai o4
    |_=>False
   |none=>False)(r:aX c m fr H a w)
(hn:∀m' ai H' a' w',K ai H'->aX c m' ai H' a' w'->next a' w'):o.wp P a w next Q:=by
 split at h
 ·rename_i vs ai H' hm;split at h
  ·rename_i g first kc hf
   obtain⟨m',cV,r',j4⟩:=RN r hm;have hv:=f8 r' hf;generalize hy:a.eval f=y at hv;cases hv with
   |func fn hl k kl kk=>
    rename_i Qv Qt
    have dS:(execOp a.eval o).run P w=.ok (.enter g (Qv++args.map a.eval++Qt)) w:=by
     have hc:=h.1 (Qv++args.map a.eval++Qt) w;simp only[execOp,ho,Sem.run_bind,resolve,hy,Deferred.ofValue,Sem.run_pure,Result.andThen_ok,invoke];exact hc
    unfold Oper.wp;rw[dS]
    have hargs:Vl m' (first.toList++vs++kc.toList) (Qv++args.map a.eval++Qt).toList:=by
     simp only[Ab7,Array.toList_map];exact(Vl.append ⟨hl,k⟩ j4).append ⟨kl,kk⟩
    refine(h.2 m' w _ r'.h hargs r'.tb).mono ?_;rintro e w' ⟨cv,v,o4,G4,rfl,hR,hV,hH,Aa2,D3,Abt⟩;exact nM hR (r'.call hH Aa2 D3 Abt) hV hn
  ·cases h
 ·cases h
def zvO{t:TypeId}{x:Operand}(ho:o.op=.load t x)
(h:match mU P t (mE fr H x)with|some v=>bB c.nt K o.dst (.v v) fr H|none=>False)(r:aX c m fr H a w)
(hn:∀m' ai H' a' w',K ai H'->aX c m' ai H' a' w'->next a' w'):o.wp P a w next Q:=by
 split at h
 ·rename_i v hv;cases hl:mE fr H x with
  |none=>rw[hl]at hv;unfold mU at hv;split at hv<;>simp_all
  |some cells=>
   rw[hl]at hv;obtain⟨b,o',h1,h2⟩:=zqx r hl;obtain⟨y,hy,hV⟩:=Y8 (P:=P) hv h2
   have dS:(execOp a.eval o).run P w=.ok (.value y) w:=by
    simp[execOp,ho,h1,Instr.loadAt,Instr.sureAddr,hy]
   unfold Oper.wp;rw[dS];exact nM h r hV hn
 ·cases h
def zuB{e:TypeId}(ho:o.op=.alloc e)
(h:match cA P e,o.dst with
   |some (_,_,_,z),J d=>if d<c.nt/\z.all cr=Z then K (fr.eT d z) H else False
   |_,_=>False)(r:aX c m fr H a w)
(hn:∀m' ai H' a' w',K ai H'->aX c m' ai H' a' w'->next a' w'):o.wp P a w next Q:=by
 split at h
 ·rename_i g sz cz z d ht hd;split at h
  ·rename_i hc;obtain⟨i,zv,hi,hz,jj,_,_,_,_⟩:=jB (w:=w) ht
   have dS:(execOp a.eval o).run P w=.ok (.value (.pointer (J ⟨w.heap.size,0,ae⟩))) (w.alloc (.cells zv.cells e)):=by
    simp[execOp,ho,Instr.alloc,zeroValue,typeInfo,hi,hz,newVar,newRow]
   unfold Oper.wp;rw[dS,Oper.upon_value,hd];refine hn _ _ _ _ _ h (r.eT hc.1 ?_ e);rw[jj];exact BH hc.2
  ·cases h
 ·cases h
def zyk{e:TypeId}{x:Operand}(ho:o.op=.box e x)
(h:match cA P e,be fr x,o.dst with
   |some _,J v,J d=>if d<c.nt/\ml v=Z then K (fr.eT d v.cells.toList) H else False
   |_,_,_=>False)(r:aX c m fr H a w)
(hn:∀m' ai H' a' w',K ai H'->aX c m' ai H' a' w'->next a' w'):o.wp P a w next Q:=by
 split at h
 ·rename_i q v d ht hx hd;split at h
  ·rename_i hc;have hv:=f8 r hx;have hne:v≠.tuple #[]:=λe=>by rw[e]at hc;simp[ml]at hc
   have dS:(execOp a.eval o).run P w=.ok (.value (.pointer (J ⟨w.heap.size,0,ae⟩))) (w.alloc (.cells (a.eval x).cells e)):=by
    simp[execOp,ho,Instr.box,newVar,newRow]
   unfold Oper.wp;rw[dS,Oper.upon_value,hd];exact hn _ _ _ _ _ h (r.eT hc.1 (hv.cells hne) e)
  ·cases h
 ·cases h
def HO(z:List Value)(n:Nat):((Array.range (n*z.length)).map (λi=>z.toArray[i%z.toArray.size]!)).toList=(List.replicate n z).flatten:=by
 induction n with
 |zero=>simp
 |succ n ih=>
  rw[List.replicate_succ',T7,<-ih];rw[show(n+1)*z.length=n*z.length+z.length from by rw[nS,Kt]];simp only[Array.toList_map,Array.toList_range,Gt,List.flatten_nil,rc];rw[Aam,l8];congr 1;rw[sF];apply List.ext_getElem
  ·simp
  ·intro i h1 h2;simp at h1 h2;simp[Nat.mul_add_mod_self_right,nT h1,h1]
def zxT{kB:Nat->Option (Nat×Nat)}:∀{l:List (Nat×Value)}{cs eU:List Value},jx kB l cs=J eU->eU.length=cs.length:=by
 intro l;induction l with
 |nil=>intro cs eU h;simp only[jx,aT]at h;rw[h]
 |cons p l ih=>
  intro cs eU h;obtain⟨i,v⟩:=p;simp only[jx]at h;split at h
  ·split at h
   ·split at h
    ·rename_i cs1 dj;rw[ih h];rcases Ht dj with⟨_,rfl⟩|⟨cV,rfl⟩
     ·rfl
     ·have y:=wa (xs:=v.cells);simp;omega
    ·cases h
   ·cases h
  ·cases h
def zpe{t:TypeId}{len:Nat}{ps:Array (Nat×Operand)}(ho:o.op=.buildSlice t len ps)
(h:match cR P t,o.dst,ck fr H (ps.toList.map (·.2))with
   |some e,J d,J (vs,ai,H')=>match cA P e with
    |some (_,es,_,z)=>if d<c.nt/\len*es<=2^24/\z.length=es/\es≠0/\z.all cr=Z then
     match jx (λi=>J (i*es,es)) ((ps.toList.map (·.1)).zip vs) ((List.replicate len z).flatten)with
     |some cs=>K (ai.put d (.ls len es cs)) H'
     |none=>False
     else False
    |none=>False
   |_,_,_=>False)(r:aX c m fr H a w)
(hn:∀m' ai H' a' w',K ai H'->aX c m' ai H' a' w'->next a' w'):o.wp P a w next Q:=by
 split at h
 ·rename_i e d vs ai H' he hd hm;split at h
  ·rename_i g es cz z ht;split at h
   ·rename_i hc;obtain⟨h1,h2,h3,h4,h5⟩:=hc;split at h
    ·rename_i cs hf;obtain⟨m',cV,r',j4⟩:=RN r hm;obtain⟨i,zv,hi,hz,jj,_,_,_,hs⟩:=jB (w:=w) ht;have vn:zv.cells=z.toArray:=by rw[<-jj]
     have Bl:Vl m' ((List.replicate len z).flatten) ((Array.range (len*es)).map (λi=>zv.cells[i%zv.cells.size]!)).toList:=by
      rw[vn,<-h3,HO];refine⟨rfl,λi x y hx hy=>?_⟩;rw[hx]at hy;cases hy;have Jl:=eo hx;rw[Ku]at Jl;obtain⟨l,hl,g9⟩:=Jl;rw[(nr.1 hl).2]at g9;exact Ns (bm.1 h5 x g9)
     obtain⟨v3,k1,k2⟩:=Ry (λ_ _ h=>h) hf j4 Bl (by have:=j4.Hh;simp at this⊢;exact this.symm)
     have e1:((ps.toList.map (·.1)).zip ((ps.toList.map (·.2)).map a.eval))=(ps.map λ(i,x)=>(i,a.eval x)).toList:=by
      simp[List.zip_map',sF]
     rw[e1]at k1
     have dS:(execOp a.eval o).run P w=.ok (.value (.slice (J ⟨w.heap.size,0,ae⟩) len len)) (w.alloc (.cells v3 e)):=by
      have MO:¬(len*es>2^24):=by omega
      have ON:(zeroValue e).run P w=.ok zv w:=by simp[zeroValue,typeInfo,hi,hz]
      by_cases h0:len*es=0
      ·have e0:Array.range (len*es)= #[]:=by rw[h0];rfl
       rw[e0,Array.map_empty]at k1;simp only[execOp,ho,Instr.buildSlice,Sem.run_bind,jy (pe he),Result.andThen_ok,hs,Sem.run_ite,az MO,aB h0,Sem.run_pure,e0,Array.map_empty];rw[k1];simp[newRow]
      ·simp only[execOp,ho,Instr.buildSlice,Sem.run_bind,jy (pe he),Result.andThen_ok,hs,Sem.run_ite,az MO,az h0,Sem.run_pure,ON];rw[k1];simp[newRow]
     have hlen:cs.length=len*es:=by
      rw[zxT hf,T8];simp[h3]
     unfold Oper.wp;rw[dS,Oper.upon_value,hd];exact hn _ _ _ _ _ h (r'.Abr h1 k2 hlen e)
    ·cases h
   ·cases h
  ·cases h
 ·cases h
end
end Go.Am
