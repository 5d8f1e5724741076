import Derived.Test.YtnojafnlicbhpaaGreatAmG
open Option renaming none→ae,some→J
open Bool renaming true→Z
set_option linter.defProp false
namespace Go.Am
def nu:=@List.mem_replicate
def nU:=@Nat.mod_eq_of_lt
def ri:=@List.append_nil
def Gv:=@List.flatten_cons
def Kw:=@Nat.one_mul
def Kx:=@List.mem_flatten
def Uf:=@List.flatten_append
def Ug:=@List.length_flatten
def a0p:=@List.range_add
def a2c:=@Array.toList_append
section
variable {c:q9}{m:Mu}{fr:FR}{H:AH}{a:Act}{w:World}{P:Program}{K:FR->AH->Prop}{next:Act->World->Prop}
variable{Q:Exit->Act->World->Prop}{d:Option Tmp}{o:Oper}{y:Value}
def nC{x:Value}(h:bB c.nt K d (.v x) fr H)(r:aX c m fr H a w)(hv:V m x y)
(hn:∀m' ai H' a' w',K ai H'->aX c m' ai H' a' w'->next a' w'):next (a.put d y) w:=by
 cases d with
 |none=>exact hn m fr H a w h r
 |some d=>
  simp only[bB]at h;split at h
  ·exact hn _ _ _ _ _ h (r.Ao ‹_› hv)
  ·cases h
def L9(h:bB c.nt K d .skip fr H)(r:aX c m fr H a w)
(hn:∀m' ai H' a' w',K ai H'->aX c m' ai H' a' w'->next a' w'):next (a.put d undef) w:=by
 cases d with
 |none=>exact hn m fr H a w h r
 |some d=>
  simp only[bB]at h;split at h
  ·exact hn _ _ _ _ _ h (r.a0R ‹_›)
  ·cases h
def zu2{x:FV}(h:bB c.nt K d x fr H)(r:aX c m fr H a w)(hv:VA m fr a.tmps x y)
(hn:∀m' ai H' a' w',K ai H'->aX c m' ai H' a' w'->next a' w'):next (a.put d y) w:=by
 cases x with
 |v x=>exact nC h r hv hn
 |lp s off=>
  cases d with
  |none=>exact hn m fr H a w h r
  |some d=>
   simp only[bB]at h;split at h
   ·obtain⟨cells,b,h1,h2,h3⟩:=hv;exact hn _ _ _ _ _ h (r.a14 ‹_› λ_ _=>⟨b,h2,h3⟩)
   ·cases h
 |skip=>cases hv
 |loc _=>cases hv
 |ls _ _ _=>cases hv
def Tm{id off:Nat}(h:V m (.pointer (J ⟨id,off,ae⟩)) y):id<m.n/\y=.pointer (J ⟨(m.f id).bq,(m.f id).base+off,ae⟩):=by
 cases h with
 |ptr bY=>exact⟨bY,rfl⟩
def Ap{k:IntKind}{n:Int}(h:V m (.int k n) y):y=.int k n:=by cases h;rfl
def G4{b:Bool}(h:V m (.bool b) y):y=.bool b:=by cases h;rfl
def YM{s:TypeId}{f o sz b p:Nat}(h:dv P s f=J (o,sz)):(Instr.fieldAt s (.pointer (J ⟨b,p,ae⟩)) f).run P w=.ok (.pointer (J ⟨b,p+o,ae⟩)) w:=by
 unfold dv at h;split at h
 ·rename_i jX hu;split at h
  ·rename_i fd hf;split at h
   ·rename_i i hi;split at h
    ·cases h
    ·cases h;rename_i hz;have ey:(sizeOf fd.type).run P w=.ok i.size w:=by simp[sizeOf,typeInfo,hi]
     simp[Instr.fieldAt,jC hu,hf,Instr.sureAddr,fieldPlace,ey,hz,ur]
   ·cases h
  ·cases h
 ·cases h
def zvU{x:FV}(h:ib P fr o.op=J x)(r:aX c m fr H a w):∃y,(execOp a.eval o).run P w=.ok (.value y) w/\VA m fr a.tmps x y:=by
 obtain⟨dst,op,ty,pos,af,g⟩:=o;simp only at h;cases op<;>simp only[ib]at h<;>try (cases h;done)
 case nilCheck x=>
  split at h
  ·rename_i ad hx;cases h;have hv:V m (.pointer (J ad)) (a.eval x):=si r hx;generalize hy:a.eval x=y at hv;cases hv with
   |ptr bY=>exact⟨_,by simp[execOp,hy],V.ptr bY⟩
  ·rename_i s off hx;cases h;obtain⟨cells,b,h1,h2,h3⟩:=si r hx;refine⟨_,?_,⟨cells,b,h1,h2,rfl⟩⟩;simp[execOp,h3]
  ·cases h
 case fieldAddr s x f=>
  split at h
  ·rename_i o sz t off hf hx;cases h;obtain⟨cells,b,h1,h2,h3⟩:=si r hx;refine⟨.pointer (J ⟨b,off+o,ae⟩),?_,⟨cells,b,h1,h2,rfl⟩⟩;simp[execOp,h3,YM hf]
  ·rename_i o sz id off hf hx;cases h;have hv:V m (.pointer (J ⟨id,off,ae⟩)) (a.eval x):=si r hx;obtain⟨bY,hy⟩:=Tm hv;refine⟨.pointer (J ⟨(m.f id).bq,(m.f id).base+off+o,ae⟩),?_,?_⟩
   ·simp[execOp,hy,YM hf]
   ·rw[iN];exact V.ptr bY
  ·cases h
 case indexAddr t x i=>
  split at h
  ·rename_i id off bw n cc k j hx hi;split at h
   ·rename_i e he;split at h
    ·rename_i g es dF ht;obtain⟨cB,z⟩:=dF;split at h
     ·rename_i hc;cases h;obtain⟨rfl,h0,hlt⟩:=hc;have hv:V m (.slice (J ⟨id,off,J es⟩) n cc) (a.eval x):=si r hx;have hj:=Ap (f8 r hi);obtain⟨_,_,_,_,_,_,_,_,hs⟩:=ju (w:=w) ht;generalize hy:a.eval x=y at hv;cases hv with
      |slice bY k1 k2 k3 k4=>
       rename_i o cap;have qm:0<cap:=by omega
       have ho:=k3 qm;subst ho;refine⟨.pointer (J ⟨(m.f id).bq,(m.f id).base+off+j.toNat*es,ae⟩),?_,?_⟩
       ·simp[execOp,hy,hj,Instr.indexAt,asIntOf,jC (pu he),h0,hlt,hs,ur]
       ·rw[iN];exact V.ptr bY
     ·cases h
    ·cases h
   ·cases h
  ·rename_i s off k j hx hi;split at h
   ·rename_i len e he;split at h
    ·rename_i g es dF ht;obtain⟨cB,z⟩:=dF;split at h
     ·rename_i hc;cases h;obtain⟨h0,hlt⟩:=hc;obtain⟨cells,b,h1,h2,h3⟩:=si r hx;have hj:=Ap (f8 r hi);obtain⟨_,_,_,_,_,_,_,_,hs⟩:=ju (w:=w) ht;refine⟨.pointer (J ⟨b,off+j.toNat*es,ae⟩),?_,⟨cells,b,h1,h2,rfl⟩⟩;simp[execOp,h3,hj,Instr.indexAt,asIntOf,jC (TB he),h0,hlt,hs,ur,Instr.sureAddr]
     ·cases h
    ·cases h
   ·cases h
  ·rename_i id off k j hx hi;split at h
   ·rename_i len e he;split at h
    ·rename_i g es dF ht;obtain⟨cB,z⟩:=dF;split at h
     ·rename_i hc;cases h;obtain⟨h0,hlt⟩:=hc;have hv:V m (.pointer (J ⟨id,off,ae⟩)) (a.eval x):=si r hx;obtain⟨bY,hy⟩:=Tm hv;have hj:=Ap (f8 r hi);obtain⟨_,_,_,_,_,_,_,_,hs⟩:=ju (w:=w) ht;refine⟨.pointer (J ⟨(m.f id).bq,(m.f id).base+off+j.toNat*es,ae⟩),?_,?_⟩
      ·simp[execOp,hy,hj,Instr.indexAt,asIntOf,jC (TB he),h0,hlt,hs,ur,Instr.sureAddr]
      ·rw[iN];exact V.ptr bY
     ·cases h
    ·cases h
   ·cases h
  ·cases h
def M0(h:dA P c.nt o K fr H)(r:aX c m fr H a w)
(hn:∀m' ai H' a' w',K ai H'->aX c m' ai H' a' w'->next a' w'):o.wp P a w next Q:=by
 unfold dA at h;split at h
 ·rename_i xs ic;split at h
  ·rename_i vs ai H' hm;split at h
   ·rename_i v hv;obtain⟨m',cV,r',j3⟩:=Sz r hm;obtain⟨y,hy,hV⟩:=zuM (P:=P) (w:=w) ic hv j3;unfold Oper.wp;rw[hy];exact nC h r' hV hn
   ·cases h
  ·cases h
 ·cases h
def NB(h:match ib P fr o.op with|some x=>bB c.nt K o.dst x fr H|none=>False)(r:aX c m fr H a w)
(hn:∀m' ai H' a' w',K ai H'->aX c m' ai H' a' w'->next a' w'):o.wp P a w next Q:=by
 split at h
 ·rename_i x hx;obtain⟨y,hy,hV⟩:=zvU hx r;unfold Oper.wp;rw[hy];exact zu2 h r hV hn
 ·cases h
def zwi{f:Operand}{args:Array Operand}{hY:Array TypeId}(ho:o.op=.call ⟨.value f,args,hY⟩)
(h:match cn fr H args.toList with
   |some (vs,ai,H')=>match be ai f with
    |some (.func (.func g) first kf)=>pZ P g (first.toList++vs++kf.toList) H' λv n9=>bB c.nt K o.dst (.v v) ai n9
    |_=>False
   |none=>False)(r:aX c m fr H a w)
(hn:∀m' ai H' a' w',K ai H'->aX c m' ai H' a' w'->next a' w'):o.wp P a w next Q:=by
 split at h
 ·rename_i vs ai H' hm;split at h
  ·rename_i g first kf hf
   obtain⟨m',cV,r',j3⟩:=Sz r hm;have hv:=f8 r' hf;generalize hy:a.eval f=y at hv;cases hv with
   |func fn hl k kl kk=>
    rename_i SC Qe
    have dL:(execOp a.eval o).run P w=.ok (.enter g (SC++args.map a.eval++Qe)) w:=by
     have hc:=h.1 (SC++args.map a.eval++Qe) w;simp only[execOp,ho,Sem.run_bind,resolve,hy,Deferred.ofValue,Sem.run_pure,Result.andThen_ok,invoke];exact hc
    unfold Oper.wp;rw[dL]
    have hargs:Vl m' (first.toList++vs++kf.toList) (SC++args.map a.eval++Qe).toList:=by
     simp only[a2c,Array.toList_map];exact(Vl.append ⟨hl,k⟩ j3).append ⟨kl,kk⟩
    refine(h.2 m' w _ r'.h hargs r'.tb).mono ?_;rintro e w' ⟨cv,v,n9,HA,rfl,hR,hV,hH,a1I,F5,a1b⟩;exact nC hR (r'.call hH a1I F5 a1b) hV hn
  ·cases h
 ·cases h
def zwF{t:TypeId}{x:Operand}(ho:o.op=.load t x)
(h:match mX P t (ma fr H x)with|some v=>bB c.nt K o.dst (.v v) fr H|none=>False)(r:aX c m fr H a w)
(hn:∀m' ai H' a' w',K ai H'->aX c m' ai H' a' w'->next a' w'):o.wp P a w next Q:=by
 split at h
 ·rename_i v hv;cases hl:ma fr H x with
  |none=>rw[hl]at hv;unfold mX at hv;split at hv<;>simp_all
  |some cells=>
   rw[hl]at hv;obtain⟨b,o',h1,h2⟩:=zqO r hl;obtain⟨y,hy,hV⟩:=V1 (P:=P) hv h2
   have dL:(execOp a.eval o).run P w=.ok (.value y) w:=by
    simp[execOp,ho,h1,Instr.loadAt,Instr.sureAddr,hy]
   unfold Oper.wp;rw[dL];exact nC h r hV hn
 ·cases h
def zub{e:TypeId}(ho:o.op=.alloc e)
(h:match cA P e,o.dst with
   |some (_,_,_,z),J d=>if d<c.nt/\z.all ct=Z then K (fr.eS d z) H else False
   |_,_=>False)(r:aX c m fr H a w)
(hn:∀m' ai H' a' w',K ai H'->aX c m' ai H' a' w'->next a' w'):o.wp P a w next Q:=by
 split at h
 ·rename_i g sz cB z d ht hd;split at h
  ·rename_i hc;obtain⟨i,zv,hi,hz,jo,_,_,_,_⟩:=ju (w:=w) ht
   have dL:(execOp a.eval o).run P w=.ok (.value (.pointer (J ⟨w.heap.size,0,ae⟩))) (w.alloc (.cells zv.cells e)):=by
    simp[execOp,ho,Instr.alloc,zeroValue,typeInfo,hi,hz,newVar,newRow]
   unfold Oper.wp;rw[dL,Oper.upon_value,hd];refine hn _ _ _ _ _ h (r.eS hc.1 ?_ e);rw[jo];exact B0 hc.2
  ·cases h
 ·cases h
def zyv{e:TypeId}{x:Operand}(ho:o.op=.box e x)
(h:match cA P e,be fr x,o.dst with
   |some _,J v,J d=>if d<c.nt/\mD v=Z then K (fr.eS d v.cells.toList) H else False
   |_,_,_=>False)(r:aX c m fr H a w)
(hn:∀m' ai H' a' w',K ai H'->aX c m' ai H' a' w'->next a' w'):o.wp P a w next Q:=by
 split at h
 ·rename_i q v d ht hx hd;split at h
  ·rename_i hc;have hv:=f8 r hx;have hne:v≠.tuple #[]:=λe=>by rw[e]at hc;simp[mD]at hc
   have dL:(execOp a.eval o).run P w=.ok (.value (.pointer (J ⟨w.heap.size,0,ae⟩))) (w.alloc (.cells (a.eval x).cells e)):=by
    simp[execOp,ho,Instr.box,newVar,newRow]
   unfold Oper.wp;rw[dL,Oper.upon_value,hd];exact hn _ _ _ _ _ h (r.eS hc.1 (hv.cells hne) e)
  ·cases h
 ·cases h
def IA(z:List Value)(n:Nat):((Array.range (n*z.length)).map (λi=>z.toArray[i%z.toArray.size]!)).toList=(List.replicate n z).flatten:=by
 induction n with
 |zero=>simp
 |succ n ih=>
  rw[List.replicate_succ',Uf,<-ih];rw[show(n+1)*z.length=n*z.length+z.length from by rw[nT,Kw]];simp only[Array.toList_map,Array.toList_range,Gv,List.flatten_nil,ri];rw[a0p,l8];congr 1;rw[sG];apply List.ext_getElem
  ·simp
  ·intro i h1 h2;simp at h1 h2;simp[Nat.mul_add_mod_self_right,nU h1,h1]
def zxN{kR:Nat->Option (Nat×Nat)}:∀{l:List (Nat×Value)}{cs eQ:List Value},jw kR l cs=J eQ->eQ.length=cs.length:=by
 intro l;induction l with
 |nil=>intro cs eQ h;simp only[jw,aT]at h;rw[h]
 |cons p l ih=>
  intro cs eQ h;obtain⟨i,v⟩:=p;simp only[jw]at h;split at h
  ·split at h
   ·split at h
    ·rename_i cs1 dn;rw[ih h];rcases IU dn with⟨_,rfl⟩|⟨cV,rfl⟩
     ·rfl
     ·have y:=wb (xs:=v.cells);simp;omega
    ·cases h
   ·cases h
  ·cases h
def zpl{t:TypeId}{len:Nat}{ps:Array (Nat×Operand)}(ho:o.op=.buildSlice t len ps)
(h:match cS P t,o.dst,cn fr H (ps.toList.map (·.2))with
   |some e,J d,J (vs,ai,H')=>match cA P e with
    |some (_,es,_,z)=>if d<c.nt/\len*es<=2^24/\z.length=es/\es≠0/\z.all ct=Z then
     match jw (λi=>J (i*es,es)) ((ps.toList.map (·.1)).zip vs) ((List.replicate len z).flatten)with
     |some cs=>K (ai.put d (.ls len es cs)) H'
     |none=>False
     else False
    |none=>False
   |_,_,_=>False)(r:aX c m fr H a w)
(hn:∀m' ai H' a' w',K ai H'->aX c m' ai H' a' w'->next a' w'):o.wp P a w next Q:=by
 split at h
 ·rename_i e d vs ai H' he hd hm;split at h
  ·rename_i g es cB z ht;split at h
   ·rename_i hc;obtain⟨h1,h2,h3,h4,h5⟩:=hc;split at h
    ·rename_i cs hf;obtain⟨m',cV,r',j3⟩:=Sz r hm;obtain⟨i,zv,hi,hz,jo,_,_,_,hs⟩:=ju (w:=w) ht;have uW:zv.cells=z.toArray:=by rw[<-jo]
     have BL:Vl m' ((List.replicate len z).flatten) ((Array.range (len*es)).map (λi=>zv.cells[i%zv.cells.size]!)).toList:=by
      rw[uW,<-h3,IA];refine⟨rfl,λi x y hx hy=>?_⟩;rw[hx]at hy;cases hy;have Hb:=eo hx;rw[Kx]at Hb;obtain⟨l,hl,g9⟩:=Hb;rw[(nu.1 hl).2]at g9;exact La (bm.1 h5 x g9)
     obtain⟨uA,k1,k2⟩:=PC (λ_ _ h=>h) hf j3 BL (by have:=j3.IQ;simp at this⊢;exact this.symm)
     have e1:((ps.toList.map (·.1)).zip ((ps.toList.map (·.2)).map a.eval))=(ps.map λ(i,x)=>(i,a.eval x)).toList:=by
      simp[List.zip_map',sG]
     rw[e1]at k1
     have dL:(execOp a.eval o).run P w=.ok (.value (.slice (J ⟨w.heap.size,0,ae⟩) len len)) (w.alloc (.cells uA e)):=by
      have NI:¬(len*es>2^24):=by omega
      have Qh:(zeroValue e).run P w=.ok zv w:=by simp[zeroValue,typeInfo,hi,hz]
      by_cases h0:len*es=0
      ·have e0:Array.range (len*es)= #[]:=by rw[h0];rfl
       rw[e0,Array.map_empty]at k1;simp only[execOp,ho,Instr.buildSlice,Sem.run_bind,jC (pu he),Result.andThen_ok,hs,Sem.run_ite,az NI,aB h0,Sem.run_pure,e0,Array.map_empty];rw[k1];simp[newRow]
      ·simp only[execOp,ho,Instr.buildSlice,Sem.run_bind,jC (pu he),Result.andThen_ok,hs,Sem.run_ite,az NI,az h0,Sem.run_pure,Qh];rw[k1];simp[newRow]
     have hlen:cs.length=len*es:=by
      rw[zxN hf,Ug];simp[h3]
     unfold Oper.wp;rw[dL,Oper.upon_value,hd];exact hn _ _ _ _ _ h (r'.a1k h1 k2 hlen e)
    ·cases h
   ·cases h
  ·cases h
 ·cases h
end
end Go.Am
