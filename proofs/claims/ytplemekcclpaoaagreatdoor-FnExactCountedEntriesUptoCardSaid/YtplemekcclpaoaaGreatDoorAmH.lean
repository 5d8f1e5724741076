import Derived.Test.YtplemekcclpaoaaGreatDoorAmG
namespace Go.Am
section
variable {c:Ctx}{m:Mu}{fr:FR}{H:AH}{a:Act}{w:World}{P:Program}{K:FR→AH→Prop}{next:Act→World→Prop}
variable{Q:Exit→Act→World→Prop}{d:Option Tmp}{o:Oper}{y:Value}
theorem zeJ{x:Value}(h:zar c.nt K d (.v x) fr H)(r:RelS c m fr H a w)(hv:V m x y)
(hn:∀m' fr' H' a' w',K fr' H'→RelS c m' fr' H' a' w'→next a' w'):next (a.put d y) w:=by
 cases d with
 |none=>exact hn m fr H a w h r
 |some d=>
  simp only[zar]at h;split at h
  ·exact hn _ _ _ _ _ h (r.put_v ‹_› hv)
  ·cases h
theorem zjS(h:zar c.nt K d .skip fr H)(r:RelS c m fr H a w)
(hn:∀m' fr' H' a' w',K fr' H'→RelS c m' fr' H' a' w'→next a' w'):next (a.put d undef) w:=by
 cases d with
 |none=>exact hn m fr H a w h r
 |some d=>
  simp only[zar]at h;split at h
  ·exact hn _ _ _ _ _ h (r.put_skip ‹_›)
  ·cases h
theorem ztZ{x:FV}(h:zar c.nt K d x fr H)(r:RelS c m fr H a w)(hv:VA m fr a.tmps x y)
(hn:∀m' fr' H' a' w',K fr' H'→RelS c m' fr' H' a' w'→next a' w'):next (a.put d y) w:=by
 cases x with
 |v x=>exact zeJ h r hv hn
 |lp s off=>
  cases d with
  |none=>exact hn m fr H a w h r
  |some d=>
   simp only[zar]at h;split at h
   ·obtain⟨cells,b,h1,h2,h3⟩:=hv;exact hn _ _ _ _ _ h (r.put_lp ‹_› fun _ _=>⟨b,h2,h3⟩)
   ·cases h
 |skip=>cases hv
 |loc _=>cases hv
 |ls _ _ _=>cases hv
theorem zpU{id off:Nat}(h:V m (.pointer (some ⟨id,off,none⟩)) y):id<m.n∧y=.pointer (some ⟨(m.f id).blk,(m.f id).base+off,none⟩):=by
 cases h with
 |ptr hid=>exact⟨hid,rfl⟩
theorem zgX{k:IntKind}{n:Int}(h:V m (.int k n) y):y=.int k n:=by cases h;rfl
theorem zju{b:Bool}(h:V m (.bool b) y):y=.bool b:=by cases h;rfl
theorem ztU{s:TypeId}{f o sz b p:Nat}(h:zah P s f=some (o,sz)):(Instr.fieldAt s (.pointer (some ⟨b,p,none⟩)) f).run P w=.ok (.pointer (some ⟨b,p+o,none⟩)) w:=by
 unfold zah at h;split at h
 ·rename_i fields hu;split at h
  ·rename_i fd hf;split at h
   ·rename_i i hi;split at h
    ·cases h
    ·cases h;rename_i hz;have hsz:(sizeOf fd.type).run P w=.ok i.size w:=by simp[sizeOf,typeInfo,hi]
     simp[Instr.fieldAt,zb0 hu,hf,Instr.sureAddr,fieldPlace,hsz,hz,zeS]
   ·cases h
  ·cases h
 ·cases h
theorem zuG{x:FV}(h:zcV P fr o.op=some x)(r:RelS c m fr H a w):∃y,(execOp a.eval o).run P w=.ok (.value y) w∧VA m fr a.tmps x y:=by
 obtain⟨dst,op,ty,pos,af,g⟩:=o;simp only at h;cases op<;>simp only[zcV]at h<;>try (cases h;done)
 case nilCheck x=>
  split at h
  ·rename_i ad hx;cases h;have hv:V m (.pointer (some ad)) (a.eval x):=zdP r hx;generalize hy:a.eval x=y at hv;cases hv with
   |ptr hid=>exact⟨_,by simp[execOp,hy],V.ptr hid⟩
  ·rename_i s off hx;cases h;obtain⟨cells,b,h1,h2,h3⟩:=zdP r hx;refine⟨_,?_,⟨cells,b,h1,h2,rfl⟩⟩;simp[execOp,h3]
  ·cases h
 case fieldAddr s x f=>
  split at h
  ·rename_i o sz t off hf hx;cases h;obtain⟨cells,b,h1,h2,h3⟩:=zdP r hx;refine⟨.pointer (some ⟨b,off+o,none⟩),?_,⟨cells,b,h1,h2,rfl⟩⟩;simp[execOp,h3,ztU hf]
  ·rename_i o sz id off hf hx;cases h;have hv:V m (.pointer (some ⟨id,off,none⟩)) (a.eval x):=zdP r hx;obtain⟨hid,hy⟩:=zpU hv;refine⟨.pointer (some ⟨(m.f id).blk,(m.f id).base+off+o,none⟩),?_,?_⟩
   ·simp[execOp,hy,ztU hf]
   ·rw[Nat.add_assoc];exact V.ptr hid
  ·cases h
 case indexAddr t x i=>
  split at h
  ·rename_i id off es' n cc k j hx hi;split at h
   ·rename_i e he;split at h
    ·rename_i g es rest ht;obtain⟨by_,z⟩:=rest;split at h
     ·rename_i hc;cases h;obtain⟨rfl,h0,hlt⟩:=hc;have hv:V m (.slice (some ⟨id,off,some es⟩) n cc) (a.eval x):=zdP r hx;have hj:=zgX (zaT r hi);obtain⟨_,_,_,_,_,_,_,_,hs⟩:=zbp (w:=w) ht;generalize hy:a.eval x=y at hv;cases hv with
      |slice hid k1 k2 k3 k4=>
       rename_i o cap;have hcap:0<cap:=by omega
       have ho:=k3 hcap;subst ho;refine⟨.pointer (some ⟨(m.f id).blk,(m.f id).base+off+j.toNat*es,none⟩),?_,?_⟩
       ·simp[execOp,hy,hj,Instr.indexAt,asIntOf,zb0 (zb6 he),h0,hlt,hs,zeS]
       ·rw[Nat.add_assoc];exact V.ptr hid
     ·cases h
    ·cases h
   ·cases h
  ·rename_i s off k j hx hi;split at h
   ·rename_i len e he;split at h
    ·rename_i g es rest ht;obtain⟨by_,z⟩:=rest;split at h
     ·rename_i hc;cases h;obtain⟨h0,hlt⟩:=hc;obtain⟨cells,b,h1,h2,h3⟩:=zdP r hx;have hj:=zgX (zaT r hi);obtain⟨_,_,_,_,_,_,_,_,hs⟩:=zbp (w:=w) ht;refine⟨.pointer (some ⟨b,off+j.toNat*es,none⟩),?_,⟨cells,b,h1,h2,rfl⟩⟩;simp[execOp,h3,hj,Instr.indexAt,asIntOf,zb0 (zkW he),h0,hlt,hs,zeS,Instr.sureAddr]
     ·cases h
    ·cases h
   ·cases h
  ·rename_i id off k j hx hi;split at h
   ·rename_i len e he;split at h
    ·rename_i g es rest ht;obtain⟨by_,z⟩:=rest;split at h
     ·rename_i hc;cases h;obtain⟨h0,hlt⟩:=hc;have hv:V m (.pointer (some ⟨id,off,none⟩)) (a.eval x):=zdP r hx;obtain⟨hid,hy⟩:=zpU hv;have hj:=zgX (zaT r hi);obtain⟨_,_,_,_,_,_,_,_,hs⟩:=zbp (w:=w) ht;refine⟨.pointer (some ⟨(m.f id).blk,(m.f id).base+off+j.toNat*es,none⟩),?_,?_⟩
      ·simp[execOp,hy,hj,Instr.indexAt,asIntOf,zb0 (zkW he),h0,hlt,hs,zeS,Instr.sureAddr]
      ·rw[Nat.add_assoc];exact V.ptr hid
     ·cases h
    ·cases h
   ·cases h
  ·cases h
theorem zhn(h:zaB P c.nt o K fr H)(r:RelS c m fr H a w)
(hn:∀m' fr' H' a' w',K fr' H'→RelS c m' fr' H' a' w'→next a' w'):o.wp P a w next Q:=by
 unfold zaB at h;split at h
 ·rename_i xs hxs;split at h
  ·rename_i vs fr' H' hm;split at h
   ·rename_i v hv;obtain⟨m',hle,r',hvs⟩:=zlA r hm;obtain⟨y,hy,hV⟩:=ztj (P:=P) (w:=w) hxs hv hvs;unfold Oper.wp;rw[hy];exact zeJ h r' hV hn
   ·cases h
  ·cases h
 ·cases h
theorem zh9(h:match zcV P fr o.op with|some x=>zar c.nt K o.dst x fr H|none=>False)(r:RelS c m fr H a w)
(hn:∀m' fr' H' a' w',K fr' H'→RelS c m' fr' H' a' w'→next a' w'):o.wp P a w next Q:=by
 split at h
 ·rename_i x hx;obtain⟨y,hy,hV⟩:=zuG hx r;unfold Oper.wp;rw[hy];exact ztZ h r hV hn
 ·cases h
theorem zuc{f:Operand}{args:Array Operand}{tys:Array TypeId}(ho:o.op=.call ⟨.value f,args,tys⟩)
(h:match zaG fr H args.toList with
   |some (vs,fr',H')=>match rdv fr' f with
    |some (.func (.func g) first captured)=>ACalls P g (first.toList++vs++captured.toList) H' fun v H''=>zar c.nt K o.dst (.v v) fr' H''
    |_=>False
   |none=>False)(r:RelS c m fr H a w)
(hn:∀m' fr' H' a' w',K fr' H'→RelS c m' fr' H' a' w'→next a' w'):o.wp P a w next Q:=by
 split at h
 ·rename_i vs fr' H' hm;split at h
  ·rename_i g first captured hf
   obtain⟨m',hle,r',hvs⟩:=zlA r hm;have hv:=zaT r' hf;generalize hy:a.eval f=y at hv;cases hv with
   |func fn hl k kl kk=>
    rename_i first' captured'
    have hrun:(execOp a.eval o).run P w=.ok (.enter g (first'++args.map a.eval++captured')) w:=by
     have hc:=h.1 (first'++args.map a.eval++captured') w;simp only[execOp,ho,Sem.run_bind,resolve,hy,Deferred.ofValue,Sem.run_pure,Result.andThen_ok,invoke];exact hc
    unfold Oper.wp;rw[hrun]
    have hargs:Vl m' (first.toList++vs++captured.toList) (first'++args.map a.eval++captured').toList:=by
     simp only[Array.toList_append,Array.toList_map];exact(Vl.append ⟨hl,k⟩ hvs).append ⟨kl,kk⟩
    refine(h.2 m' w _ r'.h hargs r'.tb).mono ?_;rintro e w' ⟨cv,v,H'',m'',rfl,hR,hV,hH,hle',hkeep,hfrom⟩;exact zeJ hR (r'.call hH hle' hkeep hfrom) hV hn
  ·cases h
 ·cases h
theorem zuf{t:TypeId}{x:Operand}(ho:o.op=.load t x)
(h:match zfr P t (zcq fr H x)with|some v=>zar c.nt K o.dst (.v v) fr H|none=>False)(r:RelS c m fr H a w)
(hn:∀m' fr' H' a' w',K fr' H'→RelS c m' fr' H' a' w'→next a' w'):o.wp P a w next Q:=by
 split at h
 ·rename_i v hv;cases hl:zcq fr H x with
  |none=>rw[hl]at hv;unfold zfr at hv;split at hv<;>simp_all
  |some cells=>
   rw[hl]at hv;obtain⟨b,o',h1,h2⟩:=zpS r hl;obtain⟨y,hy,hV⟩:=zrd (P:=P) hv h2
   have hrun:(execOp a.eval o).run P w=.ok (.value y) w:=by
    simp[execOp,ho,h1,Instr.loadAt,Instr.sureAddr,hy]
   unfold Oper.wp;rw[hrun];exact zeJ h r hV hn
 ·cases h
theorem zs0{e:TypeId}(ho:o.op=.alloc e)
(h:match tsz P e,o.dst with
   |some (_,_,_,z),some d=>if d<c.nt∧z.all zai=true then K (fr.putLoc d z) H else False
   |_,_=>False)(r:RelS c m fr H a w)
(hn:∀m' fr' H' a' w',K fr' H'→RelS c m' fr' H' a' w'→next a' w'):o.wp P a w next Q:=by
 split at h
 ·rename_i g sz by_ z d ht hd;split at h
  ·rename_i hc;obtain⟨i,zv,hi,hz,hzc,_,_,_,_⟩:=zbp (w:=w) ht
   have hrun:(execOp a.eval o).run P w=.ok (.value (.pointer (some ⟨w.heap.size,0,none⟩))) (w.alloc (.cells zv.cells e)):=by
    simp[execOp,ho,Instr.alloc,zeroValue,typeInfo,hi,hz,newVar,newRow]
   unfold Oper.wp;rw[hrun,Oper.upon_value,hd];refine hn _ _ _ _ _ h (r.putLoc hc.1 ?_ e);rw[hzc];exact zfw hc.2
  ·cases h
 ·cases h
theorem zvX{e:TypeId}{x:Operand}(ho:o.op=.box e x)
(h:match tsz P e,rdv fr x,o.dst with
   |some _,some v,some d=>if d<c.nt∧zgi v=true then K (fr.putLoc d v.cells.toList) H else False
   |_,_,_=>False)(r:RelS c m fr H a w)
(hn:∀m' fr' H' a' w',K fr' H'→RelS c m' fr' H' a' w'→next a' w'):o.wp P a w next Q:=by
 split at h
 ·rename_i q v d ht hx hd;split at h
  ·rename_i hc;have hv:=zaT r hx;have hne:v≠.tuple #[]:=fun e=>by rw[e]at hc;simp[zgi]at hc
   have hrun:(execOp a.eval o).run P w=.ok (.value (.pointer (some ⟨w.heap.size,0,none⟩))) (w.alloc (.cells (a.eval x).cells e)):=by
    simp[execOp,ho,Instr.box,newVar,newRow]
   unfold Oper.wp;rw[hrun,Oper.upon_value,hd];exact hn _ _ _ _ _ h (r.putLoc hc.1 (hv.cells hne) e)
  ·cases h
 ·cases h
theorem zfD(z:List Value)(n:Nat):((Array.range (n*z.length)).map (fun i=>z.toArray[i%z.toArray.size]!)).toList=(List.replicate n z).flatten:=by
 induction n with
 |zero=>simp
 |succ n ih=>
  rw[List.replicate_succ',List.flatten_append,←ih];rw[show(n+1)*z.length=n*z.length+z.length from by rw[Nat.add_mul,Nat.one_mul]];simp only[Array.toList_map,Array.toList_range,List.flatten_cons,List.flatten_nil,List.append_nil];rw[List.range_add,List.map_append];congr 1;rw[List.map_map];apply List.ext_getElem
  ·simp
  ·intro i h1 h2;simp at h1 h2;simp[Nat.mul_add_mod_self_right,Nat.mod_eq_of_lt h1,h1]
theorem zwf{place:Nat→Option (Nat×Nat)}:∀{l:List (Nat×Value)}{cs cs':List Value},zdE place l cs=some cs'→cs'.length=cs.length:=by
 intro l;induction l with
 |nil=>intro cs cs' h;simp only[zdE,Option.some.injEq]at h;rw[h]
 |cons p l ih=>
  intro cs cs' h;obtain⟨i,v⟩:=p;simp only[zdE]at h;split at h
  ·split at h
   ·split at h
    ·rename_i cs1 hput;rw[ih h];rcases zgO hput with⟨_,rfl⟩|⟨hle,rfl⟩
     ·rfl
     ·have y:=Array.length_toList (xs:=v.cells);simp;omega
    ·cases h
   ·cases h
  ·cases h
theorem znM{t:TypeId}{len:Nat}{ps:Array (Nat×Operand)}(ho:o.op=.buildSlice t len ps)
(h:match zaw P t,o.dst,zaG fr H (ps.toList.map (·.2))with
   |some e,some d,some (vs,fr',H')=>match tsz P e with
    |some (_,es,_,z)=>if d<c.nt∧len*es≤2^24∧z.length=es∧es≠0∧z.all zai=true then
     match zdE (fun i=>some (i*es,es)) ((ps.toList.map (·.1)).zip vs) ((List.replicate len z).flatten)with
     |some cs=>K (fr'.put d (.ls len es cs)) H'
     |none=>False
     else False
    |none=>False
   |_,_,_=>False)(r:RelS c m fr H a w)
(hn:∀m' fr' H' a' w',K fr' H'→RelS c m' fr' H' a' w'→next a' w'):o.wp P a w next Q:=by
 split at h
 ·rename_i e d vs fr' H' he hd hm;split at h
  ·rename_i g es by_ z ht;split at h
   ·rename_i hc;obtain⟨h1,h2,h3,h4,h5⟩:=hc;split at h
    ·rename_i cs hf;obtain⟨m',hle,r',hvs⟩:=zlA r hm;obtain⟨i,zv,hi,hz,hzc,_,_,_,hs⟩:=zbp (w:=w) ht;have hzs:zv.cells=z.toArray:=by rw[←hzc]
     have hz0:Vl m' ((List.replicate len z).flatten) ((Array.range (len*es)).map (fun i=>zv.cells[i%zv.cells.size]!)).toList:=by
      rw[hzs,←h3,zfD];refine⟨rfl,fun i x y hx hy=>?_⟩;rw[hx]at hy;cases hy;have hmem:=List.mem_of_getElem? hx;rw[List.mem_flatten]at hmem;obtain⟨l,hl,hxl⟩:=hmem;rw[(List.mem_replicate.1 hl).2]at hxl;exact zmQ (List.all_eq_true.1 h5 x hxl)
     obtain⟨ca',k1,k2⟩:=zkV (fun _ _ h=>h) hf hvs hz0 (by have:=hvs.len_eq;simp at this⊢;exact this.symm)
     have e1:((ps.toList.map (·.1)).zip ((ps.toList.map (·.2)).map a.eval))=(ps.map fun(i,x)=>(i,a.eval x)).toList:=by
      simp[List.zip_map',List.map_map]
     rw[e1]at k1
     have hrun:(execOp a.eval o).run P w=.ok (.value (.slice (some ⟨w.heap.size,0,none⟩) len len)) (w.alloc (.cells ca' e)):=by
      have h2':¬(len*es>2^24):=by omega
      have hzr:(zeroValue e).run P w=.ok zv w:=by simp[zeroValue,typeInfo,hi,hz]
      by_cases h0:len*es=0
      ·have e0:Array.range (len*es)= #[]:=by rw[h0];rfl
       rw[e0,Array.map_empty]at k1;simp only[execOp,ho,Instr.buildSlice,Sem.run_bind,zb0 (zb6 he),Result.andThen_ok,hs,Sem.run_ite,if_neg h2',if_pos h0,Sem.run_pure,e0,Array.map_empty];rw[k1];simp[newRow]
      ·simp only[execOp,ho,Instr.buildSlice,Sem.run_bind,zb0 (zb6 he),Result.andThen_ok,hs,Sem.run_ite,if_neg h2',if_neg h0,Sem.run_pure,hzr];rw[k1];simp[newRow]
     have hlen:cs.length=len*es:=by
      rw[zwf hf,List.length_flatten];simp[h3]
     unfold Oper.wp;rw[hrun,Oper.upon_value,hd];exact hn _ _ _ _ _ h (r'.putLs h1 k2 hlen e)
    ·cases h
   ·cases h
  ·cases h
 ·cases h
end
end Go.Am
