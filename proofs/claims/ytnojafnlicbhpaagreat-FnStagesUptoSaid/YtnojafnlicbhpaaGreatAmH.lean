import Derived.Test.YtnojafnlicbhpaaGreatAmG
open Option renaming none→ae,some→J
open Bool renaming true→Z
set_option linter.defProp false
namespace Go.Am
def nN:=@List.mem_replicate
def oA:=@Nat.mod_eq_of_lt
def rR:=@List.append_nil
def HI:=@List.flatten_cons
def LY:=@Nat.one_mul
def LZ:=@List.mem_flatten
def VW:=@List.flatten_append
def VX:=@List.length_flatten
def a1e:=@List.range_add
def a5r:=@Array.toList_append
section
variable {c:rA}{m:Mu}{fr:FR}{H:AH}{a:Act}{w:World}{P:Program}{K:FR->AH->Prop}{next:Act->World->Prop}
variable{Q:Exit->Act->World->Prop}{d:Option Tmp}{o:Oper}{y:Value}
def od{x:Value}(h:bC c.nt K d (.v x) fr H)(r:aX c m fr H a w)(hv:V m x y)
(hn:∀m' ak H' a' w',K ak H'->aX c m' ak H' a' w'->next a' w'):next (a.put d y) w:=by
 cases d with
 |none=>exact hn m fr H a w h r
 |some d=>
  simp only[bC]at h;split at h
  ·exact hn _ _ _ _ _ h (r.BF ‹_› hv)
  ·cases h
def PQ(h:bC c.nt K d .skip fr H)(r:aX c m fr H a w)
(hn:∀m' ak H' a' w',K ak H'->aX c m' ak H' a' w'->next a' w'):next (a.put d undef) w:=by
 cases d with
 |none=>exact hn m fr H a w h r
 |some d=>
  simp only[bC]at h;split at h
  ·exact hn _ _ _ _ _ h (r.a18 ‹_›)
  ·cases h
def X6{x:FV}(h:bC c.nt K d x fr H)(r:aX c m fr H a w)(hv:VA m fr a.tmps x y)
(hn:∀m' ak H' a' w',K ak H'->aX c m' ak H' a' w'->next a' w'):next (a.put d y) w:=by
 cases x with
 |v x=>exact od h r hv hn
 |lp s off=>
  cases d with
  |none=>exact hn m fr H a w h r
  |some d=>
   simp only[bC]at h;split at h
   ·obtain⟨cells,b,h1,h2,h3⟩:=hv;exact hn _ _ _ _ _ h (r.a2K ‹_› λ_ _=>⟨b,h2,h3⟩)
   ·cases h
 |skip=>cases hv
 |loc _=>cases hv
 |ls _ _ _=>cases hv
def Rr{id off:Nat}(h:V m (.pointer (J ⟨id,off,ae⟩)) y):id<m.n/\y=.pointer (J ⟨(m.f id).bu,(m.f id).base+off,ae⟩):=by
 cases h with
 |ptr b9=>exact⟨b9,rfl⟩
def A8{k:IntKind}{n:Int}(h:V m (.int k n) y):y=.int k n:=by cases h;rfl
def LM{b:Bool}(h:V m (.bool b) y):y=.bool b:=by cases h;rfl
def zu0{s:TypeId}{f o sz b p:Nat}(h:dA P s f=J (o,sz)):(Instr.fieldAt s (.pointer (J ⟨b,p,ae⟩)) f).run P w=.ok (.pointer (J ⟨b,p+o,ae⟩)) w:=by
 unfold dA at h;split at h
 ·rename_i jX hu;split at h
  ·rename_i fd hf;split at h
   ·rename_i i hi;split at h
    ·cases h
    ·cases h;rename_i hz;have eI:(sizeOf fd.type).run P w=.ok i.size w:=by simp[sizeOf,typeInfo,hi]
     simp[Instr.fieldAt,jA hu,hf,Instr.sureAddr,fieldPlace,eI,hz,vt]
   ·cases h
  ·cases h
 ·cases h
def zvN{x:FV}(h:iN P fr o.op=J x)(r:aX c m fr H a w):∃y,(execOp a.eval o).run P w=.ok (.value y) w/\VA m fr a.tmps x y:=by
 obtain⟨dst,op,ty,pos,af,g⟩:=o;simp only at h;cases op<;>simp only[iN]at h<;>try (cases h;done)
 case nilCheck x=>
  split at h
  ·rename_i ad hx;cases h;have hv:V m (.pointer (J ad)) (a.eval x):=sP r hx;generalize hy:a.eval x=y at hv;cases hv with
   |ptr b9=>exact⟨_,by simp[execOp,hy],V.ptr b9⟩
  ·rename_i s off hx;cases h;obtain⟨cells,b,h1,h2,h3⟩:=sP r hx;refine⟨_,?_,⟨cells,b,h1,h2,rfl⟩⟩;simp[execOp,h3]
  ·cases h
 case fieldAddr s x f=>
  split at h
  ·rename_i o sz t off hf hx;cases h;obtain⟨cells,b,h1,h2,h3⟩:=sP r hx;refine⟨.pointer (J ⟨b,off+o,ae⟩),?_,⟨cells,b,h1,h2,rfl⟩⟩;simp[execOp,h3,zu0 hf]
  ·rename_i o sz id off hf hx;cases h;have hv:V m (.pointer (J ⟨id,off,ae⟩)) (a.eval x):=sP r hx;obtain⟨b9,hy⟩:=Rr hv;refine⟨.pointer (J ⟨(m.f id).bu,(m.f id).base+off+o,ae⟩),?_,?_⟩
   ·simp[execOp,hy,zu0 hf]
   ·rw[jc];exact V.ptr b9
  ·cases h
 case indexAddr t x i=>
  split at h
  ·rename_i id off bA n cc k j hx hi;split at h
   ·rename_i e he;split at h
    ·rename_i g es dH ht;obtain⟨cG,z⟩:=dH;split at h
     ·rename_i hc;cases h;obtain⟨rfl,h0,hlt⟩:=hc;have hv:V m (.slice (J ⟨id,off,J es⟩) n cc) (a.eval x):=sP r hx;have hj:=A8 (gx r hi);obtain⟨_,_,_,_,_,_,_,_,hs⟩:=jN (w:=w) ht;generalize hy:a.eval x=y at hv;cases hv with
      |slice b9 k1 k2 k3 k4=>
       rename_i o cap;have rC:0<cap:=by omega
       have ho:=k3 rC;subst ho;refine⟨.pointer (J ⟨(m.f id).bu,(m.f id).base+off+j.toNat*es,ae⟩),?_,?_⟩
       ·simp[execOp,hy,hj,Instr.indexAt,asIntOf,jA (qu he),h0,hlt,hs,vt]
       ·rw[jc];exact V.ptr b9
     ·cases h
    ·cases h
   ·cases h
  ·rename_i s off k j hx hi;split at h
   ·rename_i len e he;split at h
    ·rename_i g es dH ht;obtain⟨cG,z⟩:=dH;split at h
     ·rename_i hc;cases h;obtain⟨h0,hlt⟩:=hc;obtain⟨cells,b,h1,h2,h3⟩:=sP r hx;have hj:=A8 (gx r hi);obtain⟨_,_,_,_,_,_,_,_,hs⟩:=jN (w:=w) ht;refine⟨.pointer (J ⟨b,off+j.toNat*es,ae⟩),?_,⟨cells,b,h1,h2,rfl⟩⟩;simp[execOp,h3,hj,Instr.indexAt,asIntOf,jA (SZ he),h0,hlt,hs,vt,Instr.sureAddr]
     ·cases h
    ·cases h
   ·cases h
  ·rename_i id off k j hx hi;split at h
   ·rename_i len e he;split at h
    ·rename_i g es dH ht;obtain⟨cG,z⟩:=dH;split at h
     ·rename_i hc;cases h;obtain⟨h0,hlt⟩:=hc;have hv:V m (.pointer (J ⟨id,off,ae⟩)) (a.eval x):=sP r hx;obtain⟨b9,hy⟩:=Rr hv;have hj:=A8 (gx r hi);obtain⟨_,_,_,_,_,_,_,_,hs⟩:=jN (w:=w) ht;refine⟨.pointer (J ⟨(m.f id).bu,(m.f id).base+off+j.toNat*es,ae⟩),?_,?_⟩
      ·simp[execOp,hy,hj,Instr.indexAt,asIntOf,jA (SZ he),h0,hlt,hs,vt,Instr.sureAddr]
      ·rw[jc];exact V.ptr b9
     ·cases h
    ·cases h
   ·cases h
  ·cases h
def O3(h:dE P c.nt o K fr H)(r:aX c m fr H a w)
(hn:∀m' ak H' a' w',K ak H'->aX c m' ak H' a' w'->next a' w'):o.wp P a w next Q:=by
 unfold dE at h;split at h
 ·rename_i xs iP;split at h
  ·rename_i vs ak H' hm;split at h
   ·rename_i v hv;obtain⟨m',da,r',kI⟩:=Ux r hm;obtain⟨y,hy,hV⟩:=zub (P:=P) (w:=w) iP hv kI;unfold Oper.wp;rw[hy];exact od h r' hV hn
   ·cases h
  ·cases h
 ·cases h
def ME(h:match iN P fr o.op with|some x=>bC c.nt K o.dst x fr H|none=>False)(r:aX c m fr H a w)
(hn:∀m' ak H' a' w',K ak H'->aX c m' ak H' a' w'->next a' w'):o.wp P a w next Q:=by
 split at h
 ·rename_i x hx;obtain⟨y,hy,hV⟩:=zvN hx r;unfold Oper.wp;rw[hy];exact X6 h r hV hn
 ·cases h
def zvG{f:Operand}{args:Array Operand}{il:Array TypeId}(ho:o.op=.call ⟨.value f,args,il⟩)
(h:match cr fr H args.toList with
   |some (vs,ak,H')=>match be ak f with
    |some (.func (.func g) first kv)=>qj P g (first.toList++vs++kv.toList) H' λv ph=>bC c.nt K o.dst (.v v) ak ph
    |_=>False
   |none=>False)(r:aX c m fr H a w)
(hn:∀m' ak H' a' w',K ak H'->aX c m' ak H' a' w'->next a' w'):o.wp P a w next Q:=by
 split at h
 ·rename_i vs ak H' hm;split at h
  ·rename_i g first kv hf
   obtain⟨m',da,r',kI⟩:=Ux r hm;have hv:=gx r' hf;generalize hy:a.eval f=y at hv;cases hv with
   |func fn hl k kl kk=>
    rename_i SE Qw
    have dV:(execOp a.eval o).run P w=.ok (.enter g (SE++args.map a.eval++Qw)) w:=by
     have hc:=h.1 (SE++args.map a.eval++Qw) w;simp only[execOp,ho,Sem.run_bind,resolve,hy,Deferred.ofValue,Sem.run_pure,Result.andThen_ok,invoke];exact hc
    unfold Oper.wp;rw[dV]
    have hargs:Vl m' (first.toList++vs++kv.toList) (SE++args.map a.eval++Qw).toList:=by
     simp only[a5r,Array.toList_map];exact(Vl.append ⟨hl,k⟩ kI).append ⟨kl,kk⟩
    refine(h.2 m' w _ r'.h hargs r'.tb).mono ?_;rintro e w' ⟨cv,v,ph,II,rfl,hR,hV,hH,a5h,Hf,a3n⟩;exact od hR (r'.call hH a5h Hf a3n) hV hn
  ·cases h
 ·cases h
def zwE{t:TypeId}{x:Operand}(ho:o.op=.load t x)
(h:match nx P t (mN fr H x)with|some v=>bC c.nt K o.dst (.v v) fr H|none=>False)(r:aX c m fr H a w)
(hn:∀m' ak H' a' w',K ak H'->aX c m' ak H' a' w'->next a' w'):o.wp P a w next Q:=by
 split at h
 ·rename_i v hv;cases hl:mN fr H x with
  |none=>rw[hl]at hv;unfold nx at hv;split at hv<;>simp_all
  |some cells=>
   rw[hl]at hv;obtain⟨b,o',h1,h2⟩:=zqL r hl;obtain⟨y,hy,hV⟩:=ztJ (P:=P) hv h2
   have dV:(execOp a.eval o).run P w=.ok (.value y) w:=by
    simp[execOp,ho,h1,Instr.loadAt,Instr.sureAddr,hy]
   unfold Oper.wp;rw[dV];exact od h r hV hn
 ·cases h
def zuo{e:TypeId}(ho:o.op=.alloc e)
(h:match cF P e,o.dst with
   |some (_,_,_,z),J d=>if d<c.nt/\z.all cz=Z then K (fr.fh d z) H else False
   |_,_=>False)(r:aX c m fr H a w)
(hn:∀m' ak H' a' w',K ak H'->aX c m' ak H' a' w'->next a' w'):o.wp P a w next Q:=by
 split at h
 ·rename_i g sz cG z d ht hd;split at h
  ·rename_i hc;obtain⟨i,zv,hi,hz,jC,_,_,_,_⟩:=jN (w:=w) ht
   have dV:(execOp a.eval o).run P w=.ok (.value (.pointer (J ⟨w.heap.size,0,ae⟩))) (w.alloc (.cells zv.cells e)):=by
    simp[execOp,ho,Instr.alloc,zeroValue,typeInfo,hi,hz,newVar,newRow]
   unfold Oper.wp;rw[dV,Oper.upon_value,hd];refine hn _ _ _ _ _ h (r.fh hc.1 ?_ e);rw[jC];exact CN hc.2
  ·cases h
 ·cases h
def zxo{e:TypeId}{x:Operand}(ho:o.op=.box e x)
(h:match cF P e,be fr x,o.dst with
   |some _,J v,J d=>if d<c.nt/\mH v=Z then K (fr.fh d v.cells.toList) H else False
   |_,_,_=>False)(r:aX c m fr H a w)
(hn:∀m' ak H' a' w',K ak H'->aX c m' ak H' a' w'->next a' w'):o.wp P a w next Q:=by
 split at h
 ·rename_i q v d ht hx hd;split at h
  ·rename_i hc;have hv:=gx r hx;have hne:v≠.tuple #[]:=λe=>by rw[e]at hc;simp[mH]at hc
   have dV:(execOp a.eval o).run P w=.ok (.value (.pointer (J ⟨w.heap.size,0,ae⟩))) (w.alloc (.cells (a.eval x).cells e)):=by
    simp[execOp,ho,Instr.box,newVar,newRow]
   unfold Oper.wp;rw[dV,Oper.upon_value,hd];exact hn _ _ _ _ _ h (r.fh hc.1 (hv.cells hne) e)
  ·cases h
 ·cases h
def Kk(z:List Value)(n:Nat):((Array.range (n*z.length)).map (λi=>z.toArray[i%z.toArray.size]!)).toList=(List.replicate n z).flatten:=by
 induction n with
 |zero=>simp
 |succ n ih=>
  rw[List.replicate_succ',VW,<-ih];rw[show(n+1)*z.length=n*z.length+z.length from by rw[oz,LY]];simp only[Array.toList_map,Array.toList_range,HI,List.flatten_nil,rR];rw[a1e,mz];congr 1;rw[tf];apply List.ext_getElem
  ·simp
  ·intro i h1 h2;simp at h1 h2;simp[Nat.mul_add_mod_self_right,oA h1,h1]
def zyI{lz:Nat->Option (Nat×Nat)}:∀{l:List (Nat×Value)}{cs fc:List Value},jJ lz l cs=J fc->fc.length=cs.length:=by
 intro l;induction l with
 |nil=>intro cs fc h;simp only[jJ,aT]at h;rw[h]
 |cons p l ih=>
  intro cs fc h;obtain⟨i,v⟩:=p;simp only[jJ]at h;split at h
  ·split at h
   ·split at h
    ·rename_i cs1 dv;rw[ih h];rcases HU dv with⟨_,rfl⟩|⟨da,rfl⟩
     ·rfl
     ·have y:=xI (xs:=v.cells);simp;omega
    ·cases h
   ·cases h
  ·cases h
def zpt{t:TypeId}{len:Nat}{ps:Array (Nat×Operand)}(ho:o.op=.buildSlice t len ps)
(h:match cW P t,o.dst,cr fr H (ps.toList.map (·.2))with
   |some e,J d,J (vs,ak,H')=>match cF P e with
    |some (_,es,_,z)=>if d<c.nt/\len*es<=2^24/\z.length=es/\es≠0/\z.all cz=Z then
     match jJ (λi=>J (i*es,es)) ((ps.toList.map (·.1)).zip vs) ((List.replicate len z).flatten)with
     |some cs=>K (ak.put d (.ls len es cs)) H'
     |none=>False
     else False
    |none=>False
   |_,_,_=>False)(r:aX c m fr H a w)
(hn:∀m' ak H' a' w',K ak H'->aX c m' ak H' a' w'->next a' w'):o.wp P a w next Q:=by
 split at h
 ·rename_i e d vs ak H' he hd hm;split at h
  ·rename_i g es cG z ht;split at h
   ·rename_i hc;obtain⟨h1,h2,h3,h4,h5⟩:=hc;split at h
    ·rename_i cs hf;obtain⟨m',da,r',kI⟩:=Ux r hm;obtain⟨i,zv,hi,hz,jC,_,_,_,hs⟩:=jN (w:=w) ht;have vi:zv.cells=z.toArray:=by rw[<-jC]
     have DN:Vl m' ((List.replicate len z).flatten) ((Array.range (len*es)).map (λi=>zv.cells[i%zv.cells.size]!)).toList:=by
      rw[vi,<-h3,Kk];refine⟨rfl,λi x y hx hy=>?_⟩;rw[hx]at hy;cases hy;have Lk:=eA hx;rw[LZ]at Lk;obtain⟨l,hl,iv⟩:=Lk;rw[(nN.1 hl).2]at iv;exact OX (bm.1 h5 x iv)
     obtain⟨v7,k1,k2⟩:=U1 (λ_ _ h=>h) hf kI DN (by have:=kI.JP;simp at this⊢;exact this.symm)
     have e1:((ps.toList.map (·.1)).zip ((ps.toList.map (·.2)).map a.eval))=(ps.map λ(i,x)=>(i,a.eval x)).toList:=by
      simp[List.zip_map',tf]
     rw[e1]at k1
     have dV:(execOp a.eval o).run P w=.ok (.value (.slice (J ⟨w.heap.size,0,ae⟩) len len)) (w.alloc (.cells v7 e)):=by
      have Np:¬(len*es>2^24):=by omega
      have QY:(zeroValue e).run P w=.ok zv w:=by simp[zeroValue,typeInfo,hi,hz]
      by_cases h0:len*es=0
      ·have e0:Array.range (len*es)= #[]:=by rw[h0];rfl
       rw[e0,Array.map_empty]at k1;simp only[execOp,ho,Instr.buildSlice,Sem.run_bind,jA (qu he),Result.andThen_ok,hs,Sem.run_ite,aB Np,aD h0,Sem.run_pure,e0,Array.map_empty];rw[k1];simp[newRow]
      ·simp only[execOp,ho,Instr.buildSlice,Sem.run_bind,jA (qu he),Result.andThen_ok,hs,Sem.run_ite,aB Np,aB h0,Sem.run_pure,QY];rw[k1];simp[newRow]
     have hlen:cs.length=len*es:=by
      rw[zyI hf,VX];simp[h3]
     unfold Oper.wp;rw[dV,Oper.upon_value,hd];exact hn _ _ _ _ _ h (r'.a12 h1 k2 hlen e)
    ·cases h
   ·cases h
  ·cases h
 ·cases h
end
end Go.Am
