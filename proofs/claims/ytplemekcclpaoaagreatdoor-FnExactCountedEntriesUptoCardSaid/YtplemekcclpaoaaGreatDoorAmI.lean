import Derived.Test.YtplemekcclpaoaaGreatDoorAmH
namespace Go.Am
section
variable {c:Ctx}{m:Mu}{fr:FR}{H:AH}{a:Act}{w:World}{P:Program}{K:FR→AH→Prop}{next:Act→World→Prop}
variable{Q:Exit→Act→World→Prop}{o:Oper}{t:TypeId}{x:Operand}
theorem zhP{xs ys:List Value}(h:Vl m xs ys)(hs:xs.all zeb=true):∀y∈ys,y.oneCell'=true:=by
 intro y hy;obtain⟨i,hi,rfl⟩:=List.getElem_of_mem hy;have hi':i<xs.length:=by rw[h.1];exact hi
 exact(h.2 i xs[i] ys[i] (List.getElem?_eq_getElem hi') (List.getElem?_eq_getElem hi)).oneCell (List.all_eq_true.1 hs _ (List.getElem_mem hi'))
theorem zz6(H:AH)(id:Nat)(x y:Option Blk):(H.set id x).set id y=H.set id y:=by
 unfold AH.set;congr 1;funext i;simp only;split<;>rfl
theorem RelS.heapset(r:RelS c m fr H a w){id off:Nat}{k:Blk}{k' xs ys:List Value}(hk:H.b id=some k)(hrw:k.rw=true)(hput:zbQ k.cells off xs=some k')(hv:Vl m xs ys)(hne:xs≠[]):
 ∃cur e,w.heap[(m.f id).blk]? =some (.cells cur e (0,0))∧(m.f id).base+off+ys.length≤cur.size∧
  RelS c m fr (H.set id (some ⟨true,k'⟩)) a (w.setRow (m.f id).blk (cur.toList.take ((m.f id).base+off)++ys++cur.toList.drop ((m.f id).base+off+ys.length)).toArray):=by
 obtain⟨cur,e,fz,h1,h2,h3,h5,h6⟩:=r.h.cells id k hk;rw[h5 hrw]at h1;obtain⟨g1,g2,g3,g4⟩:=zvN h2 h3 h6 hput hv hne;refine⟨cur,e,h1,g1,?_⟩
 have hfree:∀i k2,(H.set id none).b i=some k2→(m.f i).blk≠(m.f id).blk:=by
  intro i k2 hi;simp only[AH.set]at hi;split at hi
  ·cases hi
  ·rename_i hne;exact fun e'=>r.h.apart id i k k2 hk hi (fun e=>hne e.symm) hrw e'.symm
 have hown:∀t,za4 fr a.tmps t≠some (m.f id).blk:=fun t ht=>r.apart t _ id k ht hk rfl
 have r1:=(r.kill id).write_free (B:=(m.f id).blk) (cur.toList.take ((m.f id).base+off)++ys++cur.toList.drop ((m.f id).base+off+ys.length)).toArray hfree hown (r.rwA id k hk hrw);have r2:=r1.revive (id:=id) (cells:=k') (r.h.lt id k hk) (setRow_heap w _ cur _ e (0,0) h1) (by rw[g3];exact h2) (by rw[g2];exact h3) g4 hfree hown (r.rwA id k hk hrw) (r.srcS id k hk);rw[zz6]at r2;exact r2
theorem zl1{sz b o:Nat}{g:Bool}{by_:Nat}{z:List Value}{y:Value}{cur:Array Value}{e:TypeId}(ht:tsz P t=some (g,sz,by_,z))(hl:y.cells.toList.length=sz)
(hg:w.heap[b]? =some (.cells cur e (0,0)))(hfit:o+y.cells.toList.length≤cur.size)(h1:∀v∈y.cells.toList,v.oneCell'=true):
 (Instr.storeAt t (.pointer (some ⟨b,o,none⟩)) y).run P w=.ok () (w.setRow b (cur.toList.take o++y.cells.toList++cur.toList.drop (o+y.cells.toList.length)).toArray):=by
 obtain⟨_,_,_,_,_,_,_,_,hs⟩:=zbp (w:=w) ht;have hst:=run_storeCells_at P b o e y.cells.toList 0 cur w hg (by simpa using hfit) h1;simp only[Nat.add_zero]at hst;have hsz:y.cells.size=sz:=by rw[←hl];simp
 simp only[Instr.storeAt,Instr.sureAddr,Sem.run_bind,Sem.run_pure,Result.andThen_ok,storeVar,hs,hsz,ne_eq,not_true_eq_false,if_false,hst]
theorem ztk{ad:Operand}(ho:o.op=.store t ad x)
(h:match mat fr H x,tsz P t with
 |some (v,fr',H'),some (_,sz,_)=>
  if zgi v=true∧v.cells.toList.length=sz∧sz≠0∧v.cells.toList.all zeb=true then
   match rda fr' ad with
   |some (.lp s off)=>match fr' s with
    | .loc cells=>match zbQ cells off v.cells.toList with
     |some cs=>zar c.nt K o.dst .skip (fr'.put s (.loc cs)) H'
     |none=>False
    |_=>False
   |some (.v (.pointer (some ⟨id,off,none⟩)))=>match H'.b id with
    |some k=>if k.rw=true then match zbQ k.cells off v.cells.toList with
     |some cs=>zar c.nt K o.dst .skip fr' (H'.set id (some ⟨true,cs⟩))
     |none=>False
     else False
    |none=>False
   |_=>False
  else False
 |_,_=>False)(r:RelS c m fr H a w)
(hn:∀m' fr' H' a' w',K fr' H'→RelS c m' fr' H' a' w'→next a' w'):o.wp P a w next Q:=by
 split at h
 ·rename_i v fr' H' g sz bz hm ht;obtain⟨by_,z⟩:=bz;split at h
  ·rename_i hc;obtain⟨c1,c2,c3,c4⟩:=hc;obtain⟨m',hle,r',hv⟩:=zmo r hm;have hvc:=hv.cells (fun e=>by rw[e]at c1;simp[zgi]at c1);have hlen:(a.eval x).cells.toList.length=sz:=by rw[←hvc.1];exact c2
   have hone:=zhP hvc c4;have hne:v.cells.toList≠[]:=fun e=>by rw[e]at c2;exact c3 c2.symm
   split at h
   ·rename_i s off ha;split at h
    ·rename_i cells hs;split at h
     ·rename_i cs hput;obtain⟨cells',b,k1,k2,k3⟩:=zdP r' ha;have hf:=r'.f s;unfold RF at hf;rw[hs]at hf;obtain⟨b',cur,e,g1,g2,g3⟩:=hf;rw[k2]at g1;cases g1;rcases zgO hput with⟨e0,_⟩|⟨hle2,rfl⟩
      ·exact absurd e0 hne
      ·have gl:=g3.1;have gl2:=Array.length_toList (xs:=cur);have hfit:off+(a.eval x).cells.toList.length≤cur.size:=by rw[←hvc.1];omega
       have hrun:=zl1 (P:=P) (w:=w) (b:=b) (o:=off) ht hlen g2 hfit hone
       have hrun':(execOp a.eval o).run P w=.ok .skip (w.setRow b (cur.toList.take off++(a.eval x).cells.toList++cur.toList.drop (off+(a.eval x).cells.toList.length)).toArray):=by
        simp only[execOp,ho,k3,Sem.run_bind,hrun,Result.andThen_ok,Sem.run_pure]
       unfold Oper.wp;rw[hrun',Oper.upon_skip];refine zjS h (r'.regset hs k2 g2 ?_) hn;simp only;rw[←hvc.1];exact((g3.take off).append hvc).append (g3.drop _)
     ·cases h
    ·cases h
   ·rename_i id off ha;split at h
    ·rename_i k hk;split at h
     ·rename_i hrw;split at h
      ·rename_i cs hput;have hp:V m' (.pointer (some ⟨id,off,none⟩)) (a.eval ad):=zdP r' ha;obtain⟨hid,hy⟩:=zpU hp;obtain⟨cur,e,g1,g2,g3⟩:=r'.heapset hk hrw hput hvc hne;have hrun:=zl1 (P:=P) (w:=w) ht hlen g1 g2 hone
       have hrun':(execOp a.eval o).run P w=.ok .skip (w.setRow (m'.f id).blk (cur.toList.take ((m'.f id).base+off)++(a.eval x).cells.toList++cur.toList.drop ((m'.f id).base+off+(a.eval x).cells.toList.length)).toArray):=by
        simp only[execOp,ho,hy,Sem.run_bind,hrun,Result.andThen_ok,Sem.run_pure]
       unfold Oper.wp;rw[hrun',Oper.upon_skip];exact zjS h g3 hn
      ·cases h
     ·cases h
    ·cases h
   ·cases h
  ·cases h
 ·cases h
theorem zuy{y z:Operand}(ho:o.op=.pick x y z)
(h:match rdv fr x with
 |some (.bool true)=>match rdv fr y with
  |some v=>zar c.nt K o.dst (.v v) fr H
  |none=>False
 |some (.bool false)=>match rdv fr z with
  |some v=>zar c.nt K o.dst (.v v) fr H
  |none=>False
 |_=>False)(r:RelS c m fr H a w)
(hn:∀m' fr' H' a' w',K fr' H'→RelS c m' fr' H' a' w'→next a' w'):o.wp P a w next Q:=by
 split at h
 ·rename_i hx;split at h
  ·rename_i v hy;have hb:=zju (zaT r hx);unfold Oper.wp;have hrun:(execOp a.eval o).run P w=.ok (.value (a.eval y)) w:=by simp[execOp,ho,hb,asBool]
   rw[hrun];exact zeJ h r (zaT r hy) hn
  ·cases h
 ·rename_i hx;split at h
  ·rename_i v hy;have hb:=zju (zaT r hx);unfold Oper.wp;have hrun:(execOp a.eval o).run P w=.ok (.value (a.eval z)) w:=by simp[execOp,ho,hb,asBool]
   rw[hrun];exact zeJ h r (zaT r hy) hn
  ·cases h
 ·cases h
theorem RelS.fresh(r:RelS c m fr H a w){cells:List Value}{cs:Array Value}{size:Nat}(e:TypeId)(h2:size≤cs.size)(h3:cells.length≤size)
(h6:∀(i:Nat) (v:Value),cells[i]? =some v→∃c,cs[i]? =some c∧V m v c):RelS c (m.push ⟨w.heap.size,0,size⟩) fr (H.push ⟨true,cells⟩) a (w.alloc (.cells cs e)):=
 (r.alloc cs e).push (l:=⟨w.heap.size,0,size⟩) (cs:=cs) (e:=e) (heap_alloc_new w _) (by simpa using h2) h3 (by simpa using h6)
   (fun i k hi=>Nat.ne_of_lt (r.h.blk_lt hi)) (fun t ht=>by have:=r.own_lt ht;simp at this) (r.newA _ r.grow) (r.newS _ r.grow)
theorem zm4{B len cap es size:Nat}(hn:m.n=H.n)(h2:cap*es≤size)(lo:Nat)(h3:len≤lo)(h4:lo≤cap):
 V (m.push ⟨B,0,size⟩) (.slice (some ⟨H.n,0,some es⟩) len lo) (.slice (some ⟨B,0,none⟩) len cap):=by
 have hf:=m.push_f ⟨B,0,size⟩;have:=V.slice (m:=m.push ⟨B,0,size⟩) (id:=m.n) (off:=0) (es:=es) (n:=len) (c:=lo) (o:=0) (cap:=cap) (by simp[Mu.push]) h3 h4 (fun _=>by rw[hf]) (by rw[hf];simpa using h2);rw[hf,hn]at this;exact this
theorem zoe{l cc:Operand}(ho:o.op=.makeSlice t l cc)
(h:match zaw P t,rdv fr l,rdv fr cc with
 |some e,some (.int .i64 n),some (.int .i64 k)=>match tsz P e with
  |some (_,es,by_,z)=>if 0≤n∧n≤k∧by_*k≤140737488355328∧k≤4611686018427387904∧z.length=es∧es≠0∧z.all zai=true then
   zar c.nt K o.dst (.v (.slice (some ⟨H.n,0,some es⟩) n.toNat k.toNat)) fr (H.push ⟨true,(List.replicate k.toNat z).flatten⟩)
   else False
  |none=>False
 |_,_,_=>False)(r:RelS c m fr H a w)
(hn:∀m' fr' H' a' w',K fr' H'→RelS c m' fr' H' a' w'→next a' w'):o.wp P a w next Q:=by
 split at h
 ·rename_i e n k he hl hk;split at h
  ·rename_i g es by_ z ht;split at h
   ·rename_i hc;obtain⟨c1,c2,c3,c4,c5,c6,c7⟩:=hc;obtain⟨i,zv,hi,hz,hzc,hsz,hby,_,hs⟩:=zbp (w:=w) ht;have e1:=zgX (zaT r hl);have e2:=zgX (zaT r hk);have hrun:=run_make (P:=P) w t e i zv (zb6 he) hi hz .i64 .i64 n k c1 c2 (by rw[hby];omega) (by omega)
    have hrun':(execOp a.eval o).run P w=.ok (.value (.slice (some ⟨w.heap.size,0,none⟩) n.toNat k.toNat)) (w.alloc (.cells (madeCells zv.cells (k.toNat*i.size)) e)):=by
     simp only[execOp,ho,e1,e2,Sem.run_bind,hrun,Result.andThen_ok,Sem.run_pure]
    have hmade:(madeCells zv.cells (k.toNat*i.size)).toList=(List.replicate k.toNat z).flatten:=by
     have hzs:zv.cells=z.toArray:=by rw[←hzc]
     rw[hsz,hzs,←c5];exact zfD z k.toNat
    have hcsz:(madeCells zv.cells (k.toNat*i.size)).size=k.toNat*es:=by
     rw[←Array.length_toList,hmade,List.length_flatten];simp[c5]
    unfold Oper.wp;rw[hrun'];refine zeJ h (r.fresh (size:=k.toNat*es) e (by rw[hcsz];exact Nat.le_refl _) (by rw[←hmade,Array.length_toList,hcsz];exact Nat.le_refl _) fun j v hj=>?_) ?_ hn
    ·refine⟨v,?_,?_⟩
     ·rw[←Array.getElem?_toList,hmade];exact hj
     ·have hmem:=List.mem_of_getElem? hj;rw[List.mem_flatten]at hmem;obtain⟨l',hl',hxl⟩:=hmem;rw[(List.mem_replicate.1 hl').2]at hxl;exact zmQ (List.all_eq_true.1 c7 v hxl)
    ·exact zm4 r.h.n (Nat.le_refl _) _ (by omega) (Nat.le_refl _)
   ·cases h
  ·cases h
 ·cases h
theorem zjC(t ty e:TypeId)(i:TypeInfo)(ht:P.underlying t=some (.slice e))(hi:P.info? e=some i)
(g o sLen sCap:Nat)(cur:Array Value)(e':TypeId)(hg:w.heap[g]? =some (.cells cur e' (0,0)))
(ad:Addr)(n cp:Nat)(news:List Value)(hl:news.length=n*i.size)(hnews:∀(j:Nat) (u:Value),news[j]? =some u→w.cell? (ad.add j)=some u)(h1:∀u∈news,u.oneCell'=true)
(hroom:sLen+n≤sCap)(hfit:o+sLen*i.size+news.length≤cur.size):
 (Builtin.append_ #[t,t] ty #[.slice (some ⟨g,o,none⟩) sLen sCap,.slice (some ad) n cp]).run P w=
   .ok (.slice (some ⟨g,o,none⟩) (sLen+n) sCap) (w.setRow g (cur.toList.take (o+sLen*i.size)++news++cur.toList.drop (o+sLen*i.size+news.length)).toArray):=by
 have hf:=run_firstCells_some (P:=P) w i.size n ad n cp news hl hnews;have hst:=run_storeCells_at P g (o+sLen*i.size) e' news 0 cur w hg (by simpa using hfit) h1;simp only[Nat.add_zero]at hst;simp[Builtin.append_,run_underlying ht,sizeOf,typeInfo,hi,Builtin.lenOf,hroom,hf,zeS,hst]
theorem zj1(t ty e:TypeId)(i:TypeInfo)(ht:P.underlying t=some (.slice e))(hi:P.info? e=some i)(s0 x0:Option Addr)(sLen sCap cp:Nat)(hc:sLen≤sCap):
 (Builtin.append_ #[t,t] ty #[.slice s0 sLen sCap,.slice x0 0 cp]).run P w=.ok (.slice s0 sLen sCap) w:=by
 have hf:(Builtin.firstCells i.size 0 (.slice x0 0 cp)).run P w=.ok #[] w:=by
  cases x0<;>simp[Builtin.firstCells,loadCells,loadCellsFrom]
 cases s0<;>simp[Builtin.append_,run_underlying ht,sizeOf,typeInfo,hi,Builtin.lenOf,hc,hf,storeCells]
theorem zhE(r:RelS c m fr H a w){e:TypeId}{news:List Value}{n:Nat}{g:Bool}{es by_:Nat}{z:List Value}(he:zaw P t=some e)(ht:tsz P e=some (g,es,by_,z))(h:zdS P t fr H x=some (news,n)):
 news.length=n*es∧∃ad cap,a.eval x=.slice ad n cap∧(0<n→∃b o ys,ad=some ⟨b,o,none⟩∧Vl m news ys∧∀(j:Nat) (u:Value),ys[j]? =some u→w.cell? ((⟨b,o,none⟩:Addr).add j)=some u):=by
 unfold zdS at h;rw[he]at h;simp only[ht]at h;split at h
 ·rename_i s;split at h
  ·rename_i len es' cells hs;split at h
   ·rename_i e1;cases h;subst e1;have hf:=r.f s;unfold RF at hf;rw[hs]at hf;obtain⟨b,cs,ty,k1,k2,k3,k4⟩:=hf;refine⟨k4,some ⟨b,0,none⟩,n,k1,fun _=>?_⟩;obtain⟨ys,q1,q2⟩:=(zma k2 k3).list;exact⟨b,0,ys,rfl,q1,q2⟩
   ·cases h
  ·rename_i hs;cases h;have hv:=zaT r (x:=.tmp s) (v:=.slice none 0 0) (by simp[rdv,hs]);generalize hy:a.eval (.tmp s)=y at hv;cases hv with
   |nils ad=>exact⟨by simp,ad,0,rfl,fun h=>by omega⟩
  ·rename_i id off es' n' cp hs;have hv:=zaT r (x:=.tmp s) (v:=.slice (some ⟨id,off,some es'⟩) n' cp) (by simp[rdv,hs]);generalize hy:a.eval (.tmp s)=y at hv;cases hv with
   |slice hid k1 k2 k3 k4=>
    rename_i o cap;split at h
    ·cases h;rename_i hn0;subst hn0;exact⟨by simp,_,cap,rfl,fun h=>by omega⟩
    ·split at h
     ·cases h
     ·rename_i hn0 hes;have hes':es=es':=by simpa using hes
      subst hes';simp only[Option.bind_eq_some_iff,Option.map_eq_some_iff]at h;obtain⟨cells,h1,l,h2,h3⟩:=h;cases h3;obtain⟨rfl,h4⟩:=zk3 h2;simp only[AH.load,Option.map_eq_some_iff]at h1;obtain⟨k,hk,rfl⟩:=h1;have ho:=k3 (by omega);subst ho;refine⟨by simp at h4⊢;omega,_,cap,rfl,fun _=>?_⟩;obtain⟨ys,q1,q2⟩:=(((r.h.row hk).drop off).take (n*es)).list;exact⟨_,_,ys,rfl,q1,q2⟩
  ·cases h
 ·cases h;exact⟨by simp,none,0,rfl,fun h=>by omega⟩
 ·cases h
end
end Go.Am
