import Derived.Test.YtnojafnlicbhpaaGreatAmG
namespace Go.Am
set_option linter.defProp false
open Option renaming none→ae,some→J
open Bool renaming true→Z
def nr:=@List.mem_replicate
def nT:=@Nat.mod_eq_of_lt
def rc:=@List.append_nil
def Gt:=@List.flatten_cons
def Kt:=@Nat.one_mul
def Ku:=@List.mem_flatten
def Uc:=@List.flatten_append
def Ud:=@List.length_flatten
def Aan:=@List.range_add
def Aca:=@Array.toList_append
section
variable {c:qL}{m:Mu}{fr:FR}{H:AH}{a:Act}{w:World}{P:Program}{K:FR->AH->Prop}{next:Act->World->Prop}
variable{Q:Exit->Act->World->Prop}{d:Option Tmp}{o:Oper}{y:Value}
def nH{x:Value}(h:bB c.nt K d (.v x) fr H)(r:aX c m fr H a w)(hv:V m x y)
(hn:∀m' ai H' a' w',K ai H'->aX c m' ai H' a' w'->next a' w'):next (a.put d y) w:=by
 cases d with
 |none=>exact hn m fr H a w h r
 |some d=>
  simp only[bB]at h;split at h
  ·exact hn _ _ _ _ _ h (r.za ‹_› hv)
  ·cases h
def LC(h:bB c.nt K d .skip fr H)(r:aX c m fr H a w)
(hn:∀m' ai H' a' w',K ai H'->aX c m' ai H' a' w'->next a' w'):next (a.put d undef) w:=by
 cases d with
 |none=>exact hn m fr H a w h r
 |some d=>
  simp only[bB]at h;split at h
  ·exact hn _ _ _ _ _ h (r.Abq ‹_›)
  ·cases h
def Zw{x:FV}(h:bB c.nt K d x fr H)(r:aX c m fr H a w)(hv:VA m fr a.tmps x y)
(hn:∀m' ai H' a' w',K ai H'->aX c m' ai H' a' w'->next a' w'):next (a.put d y) w:=by
 cases x with
 |v x=>exact nH h r hv hn
 |lp s off=>
  cases d with
  |none=>exact hn m fr H a w h r
  |some d=>
   simp only[bB]at h;split at h
   ·obtain⟨cells,b,h1,h2,h3⟩:=hv;exact hn _ _ _ _ _ h (r.AbC ‹_› λ_ _=>⟨b,h2,h3⟩)
   ·cases h
 |skip=>cases hv
 |loc _=>cases hv
 |ls _ _ _=>cases hv
def Sz{id off:Nat}(h:V m (.pointer (J ⟨id,off,ae⟩)) y):id<m.n/\y=.pointer (J ⟨(m.f id).bq,(m.f id).base+off,ae⟩):=by
 cases h with
 |ptr bY=>exact⟨bY,rfl⟩
def zt{k:IntKind}{n:Int}(h:V m (.int k n) y):y=.int k n:=by cases h;rfl
def IK{b:Bool}(h:V m (.bool b) y):y=.bool b:=by cases h;rfl
def Vw{s:TypeId}{f o sz b p:Nat}(h:du P s f=J (o,sz)):(Instr.fieldAt s (.pointer (J ⟨b,p,ae⟩)) f).run P w=.ok (.pointer (J ⟨b,p+o,ae⟩)) w:=by
 unfold du at h;split at h
 ·rename_i jO hu;split at h
  ·rename_i fd hf;split at h
   ·rename_i i hi;split at h
    ·cases h
    ·cases h;rename_i hz;have eB:(sizeOf fd.type).run P w=.ok i.size w:=by simp[sizeOf,typeInfo,hi]
     simp[Instr.fieldAt,jh hu,hf,Instr.sureAddr,fieldPlace,eB,hz,uk]
   ·cases h
  ·cases h
 ·cases h
def zv7{x:FV}(h:il P fr o.op=J x)(r:aX c m fr H a w):∃y,(execOp a.eval o).run P w=.ok (.value y) w/\VA m fr a.tmps x y:=by
 obtain⟨dst,op,ty,pos,af,g⟩:=o;simp only at h;cases op<;>simp only[il]at h<;>try (cases h;done)
 case nilCheck x=>
  split at h
  ·rename_i ad hx;cases h;have hv:V m (.pointer (J ad)) (a.eval x):=ru r hx;generalize hy:a.eval x=y at hv;cases hv with
   |ptr bY=>exact⟨_,by simp[execOp,hy],V.ptr bY⟩
  ·rename_i s off hx;cases h;obtain⟨cells,b,h1,h2,h3⟩:=ru r hx;refine⟨_,?_,⟨cells,b,h1,h2,rfl⟩⟩;simp[execOp,h3]
  ·cases h
 case fieldAddr s x f=>
  split at h
  ·rename_i o sz t off hf hx;cases h;obtain⟨cells,b,h1,h2,h3⟩:=ru r hx;refine⟨.pointer (J ⟨b,off+o,ae⟩),?_,⟨cells,b,h1,h2,rfl⟩⟩;simp[execOp,h3,Vw hf]
  ·rename_i o sz id off hf hx;cases h;have hv:V m (.pointer (J ⟨id,off,ae⟩)) (a.eval x):=ru r hx;obtain⟨bY,hy⟩:=Sz hv;refine⟨.pointer (J ⟨(m.f id).bq,(m.f id).base+off+o,ae⟩),?_,?_⟩
   ·simp[execOp,hy,Vw hf]
   ·rw[iN];exact V.ptr bY
  ·cases h
 case indexAddr t x i=>
  split at h
  ·rename_i id off bw n cc k j hx hi;split at h
   ·rename_i e he;split at h
    ·rename_i g es dE ht;obtain⟨cz,z⟩:=dE;split at h
     ·rename_i hc;cases h;obtain⟨rfl,h0,hlt⟩:=hc;have hv:V m (.slice (J ⟨id,off,J es⟩) n cc) (a.eval x):=ru r hx;have hj:=zt (f7 r hi);obtain⟨_,_,_,_,_,_,_,_,hs⟩:=jo (w:=w) ht;generalize hy:a.eval x=y at hv;cases hv with
      |slice bY k1 k2 k3 k4=>
       rename_i o cap;have qr:0<cap:=by omega
       have ho:=k3 qr;subst ho;refine⟨.pointer (J ⟨(m.f id).bq,(m.f id).base+off+j.toNat*es,ae⟩),?_,?_⟩
       ·simp[execOp,hy,hj,Instr.indexAt,asIntOf,jh (px he),h0,hlt,hs,uk]
       ·rw[iN];exact V.ptr bY
     ·cases h
    ·cases h
   ·cases h
  ·rename_i s off k j hx hi;split at h
   ·rename_i len e he;split at h
    ·rename_i g es dE ht;obtain⟨cz,z⟩:=dE;split at h
     ·rename_i hc;cases h;obtain⟨h0,hlt⟩:=hc;obtain⟨cells,b,h1,h2,h3⟩:=ru r hx;have hj:=zt (f7 r hi);obtain⟨_,_,_,_,_,_,_,_,hs⟩:=jo (w:=w) ht;refine⟨.pointer (J ⟨b,off+j.toNat*es,ae⟩),?_,⟨cells,b,h1,h2,rfl⟩⟩;simp[execOp,h3,hj,Instr.indexAt,asIntOf,jh (PZ he),h0,hlt,hs,uk,Instr.sureAddr]
     ·cases h
    ·cases h
   ·cases h
  ·rename_i id off k j hx hi;split at h
   ·rename_i len e he;split at h
    ·rename_i g es dE ht;obtain⟨cz,z⟩:=dE;split at h
     ·rename_i hc;cases h;obtain⟨h0,hlt⟩:=hc;have hv:V m (.pointer (J ⟨id,off,ae⟩)) (a.eval x):=ru r hx;obtain⟨bY,hy⟩:=Sz hv;have hj:=zt (f7 r hi);obtain⟨_,_,_,_,_,_,_,_,hs⟩:=jo (w:=w) ht;refine⟨.pointer (J ⟨(m.f id).bq,(m.f id).base+off+j.toNat*es,ae⟩),?_,?_⟩
      ·simp[execOp,hy,hj,Instr.indexAt,asIntOf,jh (PZ he),h0,hlt,hs,uk,Instr.sureAddr]
      ·rw[iN];exact V.ptr bY
     ·cases h
    ·cases h
   ·cases h
  ·cases h
def M6(h:dA P c.nt o K fr H)(r:aX c m fr H a w)
(hn:∀m' ai H' a' w',K ai H'->aX c m' ai H' a' w'->next a' w'):o.wp P a w next Q:=by
 unfold dA at h;split at h
 ·rename_i xs ir;split at h
  ·rename_i vs ai H' hm;split at h
   ·rename_i v hv;obtain⟨m',cU,r',ka⟩:=SL r hm;obtain⟨y,hy,hV⟩:=zuK (P:=P) (w:=w) ir hv ka;unfold Oper.wp;rw[hy];exact nH h r' hV hn
   ·cases h
  ·cases h
 ·cases h
def Mv(h:match il P fr o.op with|some x=>bB c.nt K o.dst x fr H|none=>False)(r:aX c m fr H a w)
(hn:∀m' ai H' a' w',K ai H'->aX c m' ai H' a' w'->next a' w'):o.wp P a w next Q:=by
 split at h
 ·rename_i x hx;obtain⟨y,hy,hV⟩:=zv7 hx r;unfold Oper.wp;rw[hy];exact Zw h r hV hn
 ·cases h
def zwb{f:Operand}{args:Array Operand}{hO:Array TypeId}(ho:o.op=.call ⟨.value f,args,hO⟩)
(h:match ck fr H args.toList with
   |some (vs,ai,H')=>match be ai f with
    |some (.func (.func g) first km)=>pH P g (first.toList++vs++km.toList) H' λv n0=>bB c.nt K o.dst (.v v) ai n0
    |_=>False
   |none=>False)(r:aX c m fr H a w)
(hn:∀m' ai H' a' w',K ai H'->aX c m' ai H' a' w'->next a' w'):o.wp P a w next Q:=by
 split at h
 ·rename_i vs ai H' hm;split at h
  ·rename_i g first km hf
   obtain⟨m',cU,r',ka⟩:=SL r hm;have hv:=f7 r' hf;generalize hy:a.eval f=y at hv;cases hv with
   |func fn hl k kl kk=>
    rename_i T0 QF
    have dR:(execOp a.eval o).run P w=.ok (.enter g (T0++args.map a.eval++QF)) w:=by
     have hc:=h.1 (T0++args.map a.eval++QF) w;simp only[execOp,ho,Sem.run_bind,resolve,hy,Deferred.ofValue,Sem.run_pure,Result.andThen_ok,invoke];exact hc
    unfold Oper.wp;rw[dR]
    have hargs:Vl m' (first.toList++vs++km.toList) (T0++args.map a.eval++QF).toList:=by
     simp only[Aca,Array.toList_map];exact(Vl.append ⟨hl,k⟩ ka).append ⟨kl,kk⟩
    refine(h.2 m' w _ r'.h hargs r'.tb).mono ?_;rintro e w' ⟨cv,v,n0,JS,rfl,hR,hV,hH,AaY,Du,AaQ⟩;exact nH hR (r'.call hH AaY Du AaQ) hV hn
  ·cases h
 ·cases h
def zvS{t:TypeId}{x:Operand}(ho:o.op=.load t x)
(h:match mV P t (mH fr H x)with|some v=>bB c.nt K o.dst (.v v) fr H|none=>False)(r:aX c m fr H a w)
(hn:∀m' ai H' a' w',K ai H'->aX c m' ai H' a' w'->next a' w'):o.wp P a w next Q:=by
 split at h
 ·rename_i v hv;cases hl:mH fr H x with
  |none=>rw[hl]at hv;unfold mV at hv;split at hv<;>simp_all
  |some cells=>
   rw[hl]at hv;obtain⟨b,o',h1,h2⟩:=zqw r hl;obtain⟨y,hy,hV⟩:=XH (P:=P) hv h2
   have dR:(execOp a.eval o).run P w=.ok (.value y) w:=by
    simp[execOp,ho,h1,Instr.loadAt,Instr.sureAddr,hy]
   unfold Oper.wp;rw[dR];exact nH h r hV hn
 ·cases h
def zuo{e:TypeId}(ho:o.op=.alloc e)
(h:match cA P e,o.dst with
   |some (_,_,_,z),J d=>if d<c.nt/\z.all cq=Z then K (fr.eT d z) H else False
   |_,_=>False)(r:aX c m fr H a w)
(hn:∀m' ai H' a' w',K ai H'->aX c m' ai H' a' w'->next a' w'):o.wp P a w next Q:=by
 split at h
 ·rename_i g sz cz z d ht hd;split at h
  ·rename_i hc;obtain⟨i,zv,hi,hz,jy,_,_,_,_⟩:=jo (w:=w) ht
   have dR:(execOp a.eval o).run P w=.ok (.value (.pointer (J ⟨w.heap.size,0,ae⟩))) (w.alloc (.cells zv.cells e)):=by
    simp[execOp,ho,Instr.alloc,zeroValue,typeInfo,hi,hz,newVar,newRow]
   unfold Oper.wp;rw[dR,Oper.upon_value,hd];refine hn _ _ _ _ _ h (r.eT hc.1 ?_ e);rw[jy];exact Ch hc.2
  ·cases h
 ·cases h
def zxi{e:TypeId}{x:Operand}(ho:o.op=.box e x)
(h:match cA P e,be fr x,o.dst with
   |some _,J v,J d=>if d<c.nt/\mA v=Z then K (fr.eT d v.cells.toList) H else False
   |_,_,_=>False)(r:aX c m fr H a w)
(hn:∀m' ai H' a' w',K ai H'->aX c m' ai H' a' w'->next a' w'):o.wp P a w next Q:=by
 split at h
 ·rename_i q v d ht hx hd;split at h
  ·rename_i hc;have hv:=f7 r hx;have hne:v≠.tuple #[]:=λe=>by rw[e]at hc;simp[mA]at hc
   have dR:(execOp a.eval o).run P w=.ok (.value (.pointer (J ⟨w.heap.size,0,ae⟩))) (w.alloc (.cells (a.eval x).cells e)):=by
    simp[execOp,ho,Instr.box,newVar,newRow]
   unfold Oper.wp;rw[dR,Oper.upon_value,hd];exact hn _ _ _ _ _ h (r.eT hc.1 (hv.cells hne) e)
  ·cases h
 ·cases h
def Jx(z:List Value)(n:Nat):((Array.range (n*z.length)).map (λi=>z.toArray[i%z.toArray.size]!)).toList=(List.replicate n z).flatten:=by
 induction n with
 |zero=>simp
 |succ n ih=>
  rw[List.replicate_succ',Uc,<-ih];rw[show(n+1)*z.length=n*z.length+z.length from by rw[nS,Kt]];simp only[Array.toList_map,Array.toList_range,Gt,List.flatten_nil,rc];rw[Aan,l8];congr 1;rw[sF];apply List.ext_getElem
  ·simp
  ·intro i h1 h2;simp at h1 h2;simp[Nat.mul_add_mod_self_right,nT h1,h1]
def zyF{kL:Nat->Option (Nat×Nat)}:∀{l:List (Nat×Value)}{cs eV:List Value},jq kL l cs=J eV->eV.length=cs.length:=by
 intro l;induction l with
 |nil=>intro cs eV h;simp only[jq,aT]at h;rw[h]
 |cons p l ih=>
  intro cs eV h;obtain⟨i,v⟩:=p;simp only[jq]at h;split at h
  ·split at h
   ·split at h
    ·rename_i cs1 dq;rw[ih h];rcases Hn dq with⟨_,rfl⟩|⟨cU,rfl⟩
     ·rfl
     ·have y:=wa (xs:=v.cells);simp;omega
    ·cases h
   ·cases h
  ·cases h
def zpc{t:TypeId}{len:Nat}{ps:Array (Nat×Operand)}(ho:o.op=.buildSlice t len ps)
(h:match cS P t,o.dst,ck fr H (ps.toList.map (·.2))with
   |some e,J d,J (vs,ai,H')=>match cA P e with
    |some (_,es,_,z)=>if d<c.nt/\len*es<=2^24/\z.length=es/\es≠0/\z.all cq=Z then
     match jq (λi=>J (i*es,es)) ((ps.toList.map (·.1)).zip vs) ((List.replicate len z).flatten)with
     |some cs=>K (ai.put d (.ls len es cs)) H'
     |none=>False
     else False
    |none=>False
   |_,_,_=>False)(r:aX c m fr H a w)
(hn:∀m' ai H' a' w',K ai H'->aX c m' ai H' a' w'->next a' w'):o.wp P a w next Q:=by
 split at h
 ·rename_i e d vs ai H' he hd hm;split at h
  ·rename_i g es cz z ht;split at h
   ·rename_i hc;obtain⟨h1,h2,h3,h4,h5⟩:=hc;split at h
    ·rename_i cs hf;obtain⟨m',cU,r',ka⟩:=SL r hm;obtain⟨i,zv,hi,hz,jy,_,_,_,hs⟩:=jo (w:=w) ht;have v3:zv.cells=z.toArray:=by rw[<-jy]
     have CD:Vl m' ((List.replicate len z).flatten) ((Array.range (len*es)).map (λi=>zv.cells[i%zv.cells.size]!)).toList:=by
      rw[v3,<-h3,Jx];refine⟨rfl,λi x y hx hy=>?_⟩;rw[hx]at hy;cases hy;have HV:=eo hx;rw[Ku]at HV;obtain⟨l,hl,gZ⟩:=HV;rw[(nr.1 hl).2]at gZ;exact NE (bm.1 h5 x gZ)
     obtain⟨ur,k1,k2⟩:=Pp (λ_ _ h=>h) hf ka CD (by have:=ka.IV;simp at this⊢;exact this.symm)
     have e1:((ps.toList.map (·.1)).zip ((ps.toList.map (·.2)).map a.eval))=(ps.map λ(i,x)=>(i,a.eval x)).toList:=by
      simp[List.zip_map',sF]
     rw[e1]at k1
     have dR:(execOp a.eval o).run P w=.ok (.value (.slice (J ⟨w.heap.size,0,ae⟩) len len)) (w.alloc (.cells ur e)):=by
      have My:¬(len*es>2^24):=by omega
      have P7:(zeroValue e).run P w=.ok zv w:=by simp[zeroValue,typeInfo,hi,hz]
      by_cases h0:len*es=0
      ·have e0:Array.range (len*es)= #[]:=by rw[h0];rfl
       rw[e0,Array.map_empty]at k1;simp only[execOp,ho,Instr.buildSlice,Sem.run_bind,jh (px he),Result.andThen_ok,hs,Sem.run_ite,az My,aB h0,Sem.run_pure,e0,Array.map_empty];rw[k1];simp[newRow]
      ·simp only[execOp,ho,Instr.buildSlice,Sem.run_bind,jh (px he),Result.andThen_ok,hs,Sem.run_ite,az My,az h0,Sem.run_pure,P7];rw[k1];simp[newRow]
     have hlen:cs.length=len*es:=by
      rw[zyF hf,Ud];simp[h3]
     unfold Oper.wp;rw[dR,Oper.upon_value,hd];exact hn _ _ _ _ _ h (r'.Aby h1 k2 hlen e)
    ·cases h
   ·cases h
  ·cases h
 ·cases h
end
end Go.Am
