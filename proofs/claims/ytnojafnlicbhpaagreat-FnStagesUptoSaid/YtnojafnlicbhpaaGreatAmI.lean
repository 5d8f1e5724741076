import Derived.Test.YtnojafnlicbhpaaGreatAmH
open Bool renaming false→aa,true→Z
open Option renaming none→ae,some→J
set_option linter.defProp false
namespace Go.Am
def e9:=@List.getElem_mem
def Ou:=@List.getElem_of_mem
section
variable {c:qU}{m:Mu}{fr:FR}{H:AH}{a:Act}{w:World}{P:Program}{K:FR->AH->Prop}{next:Act->World->Prop}
variable{Q:Exit->Act->World->Prop}{o:Oper}{t:TypeId}{x:Operand}
def DO{xs ys:List Value}(h:Vl m xs ys)(hs:xs.all lN=Z):∀y∈ys,y.oneCell'=Z:=by
 intro y hy;obtain⟨i,hi,rfl⟩:=Ou hy;have hi':i<xs.length:=by rw[h.1];exact hi
 exact(h.2 i xs[i] ys[i] (cE hi') (cE hi)).Abf (bm.1 hs _ (e9 hi'))
def zAM(H:AH)(id:Nat)(x y:Option mu):(H.set id x).set id y=H.set id y:=by
 unfold AH.set;congr 1;funext i;simp only;split<;>rfl
def aX.Jb(r:aX c m fr H a w){id off:Nat}{k:mu}{k' xs ys:List Value}(hk:H.b id=J k)(bc:k.rw=Z)(dj:fW k.cells off xs=J k')(hv:Vl m xs ys)(hne:xs≠[]):
 ∃bF e,w.heap[(m.f id).bq]? =J (.cells bF e (0,0))/\(m.f id).base+off+ys.length<=bF.size/\
  aX c m fr (H.set id (J ⟨Z,k'⟩)) a (w.setRow (m.f id).bq (bF.toList.take ((m.f id).base+off)++ys++bF.toList.drop ((m.f id).base+off+ys.length)).toArray):=by
 obtain⟨bF,e,fz,h1,h2,h3,h5,h6⟩:=r.h.cells id k hk;rw[h5 bc]at h1;obtain⟨g1,g2,g3,g4⟩:=zyy h2 h3 h6 dj hv hne;refine⟨bF,e,h1,g1,?_⟩
 have Aq:∀i k2,(H.set id ae).b i=J k2->(m.f i).bq≠(m.f id).bq:=by
  intro i k2 hi;simp only[AH.set]at hi;split at hi
  ·cases hi
  ·rename_i hne;exact λe'=>r.h.apart id i k k2 hk hi (λe=>hne e.symm) bc e'.symm
 have cY:∀t,cI fr a.tmps t≠J (m.f id).bq:=λt ht=>r.apart t _ id k ht hk rfl
 have r1:=(r.kill id).TC (B:=(m.f id).bq) (bF.toList.take ((m.f id).base+off)++ys++bF.toList.drop ((m.f id).base+off+ys.length)).toArray Aq cY (r.jq id k hk bc);have r2:=r1.Abb (id:=id) (cells:=k') (r.h.lt id k hk) (setRow_heap w _ bF _ e (0,0) h1) (by rw[g3];exact h2) (by rw[g2];exact h3) g4 Aq cY (r.jq id k hk bc) (r.mI id k hk);rw[zAM]at r2;exact r2
def Xs{sz b o:Nat}{g:Bool}{cz:Nat}{z:List Value}{y:Value}{bF:Array Value}{e:TypeId}(ht:cA P t=J (g,sz,cz,z))(hl:y.cells.toList.length=sz)
(hg:w.heap[b]? =J (.cells bF e (0,0)))(hfit:o+y.cells.toList.length<=bF.size)(h1:∀v∈y.cells.toList,v.oneCell'=Z):
 (Instr.storeAt t (.pointer (J ⟨b,o,ae⟩)) y).run P w=.ok () (w.setRow b (bF.toList.take o++y.cells.toList++bF.toList.drop (o+y.cells.toList.length)).toArray):=by
 obtain⟨_,_,_,_,_,_,_,_,hs⟩:=jB (w:=w) ht;have dH:=run_storeCells_at P b o e y.cells.toList 0 bF w hg (by simpa using hfit) h1;simp only[rb]at dH;have eA:y.cells.size=sz:=by rw[<-hl];simp
 simp only[Instr.storeAt,Instr.sureAddr,Sem.run_bind,Sem.run_pure,Result.andThen_ok,storeVar,hs,eA,ne_eq,not_true_eq_false,l7,dH]
def zuw{ad:Operand}(ho:o.op=.store t ad x)
(h:match bh fr H x,cA P t with
 |some (v,ai,H'),J (_,sz,_)=>
  if ml v=Z/\v.cells.toList.length=sz/\sz≠0/\v.cells.toList.all lN=Z then
   match bM ai ad with
   |some (.lp s off)=>match ai s with
    | .loc cells=>match fW cells off v.cells.toList with
     |some cs=>bB c.nt K o.dst .skip (ai.put s (.loc cs)) H'
     |none=>False
    |_=>False
   |some (.v (.pointer (J ⟨id,off,ae⟩)))=>match H'.b id with
    |some k=>if k.rw=Z then match fW k.cells off v.cells.toList with
     |some cs=>bB c.nt K o.dst .skip ai (H'.set id (J ⟨Z,cs⟩))
     |none=>False
     else False
    |none=>False
   |_=>False
  else False
 |_,_=>False)(r:aX c m fr H a w)
(hn:∀m' ai H' a' w',K ai H'->aX c m' ai H' a' w'->next a' w'):o.wp P a w next Q:=by
 split at h
 ·rename_i v ai H' g sz bz hm ht;obtain⟨cz,z⟩:=bz;split at h
  ·rename_i hc;obtain⟨c1,c2,c3,c4⟩:=hc;obtain⟨m',cV,r',hv⟩:=Rd r hm;have FQ:=hv.cells (λe=>by rw[e]at c1;simp[ml]at c1);have hlen:(a.eval x).cells.toList.length=sz:=by rw[<-FQ.1];exact c2
   have ym:=DO FQ c4;have hne:v.cells.toList≠[]:=λe=>by rw[e]at c2;exact c3 c2.symm
   split at h
   ·rename_i s off ha;split at h
    ·rename_i cells hs;split at h
     ·rename_i cs dj;obtain⟨dx,b,k1,k2,k3⟩:=r7 r' ha;have hf:=r'.f s;unfold RF at hf;rw[hs]at hf;obtain⟨b',bF,e,g1,g2,g3⟩:=hf;rw[k2]at g1;cases g1;rcases Ht dj with⟨e0,_⟩|⟨Nt,rfl⟩
      ·exact absurd e0 hne
      ·have gl:=g3.1;have gl2:=wa (xs:=bF);have hfit:off+(a.eval x).cells.toList.length<=bF.size:=by rw[<-FQ.1];omega
       have dS:=Xs (P:=P) (w:=w) (b:=b) (o:=off) ht hlen g2 hfit ym
       have J0:(execOp a.eval o).run P w=.ok .skip (w.setRow b (bF.toList.take off++(a.eval x).cells.toList++bF.toList.drop (off+(a.eval x).cells.toList.length)).toArray):=by
        simp only[execOp,ho,k3,Sem.run_bind,dS,Result.andThen_ok,Sem.run_pure]
       unfold Oper.wp;rw[J0,Oper.upon_skip];refine N4 h (r'.AbM hs k2 g2 ?_) hn;simp only;rw[<-FQ.1];exact((g3.take off).append FQ).append (g3.drop _)
     ·cases h
    ·cases h
   ·rename_i id off ha;split at h
    ·rename_i k hk;split at h
     ·rename_i bc;split at h
      ·rename_i cs dj;have hp:V m' (.pointer (J ⟨id,off,ae⟩)) (a.eval ad):=r7 r' ha;obtain⟨bY,hy⟩:=QP hp;obtain⟨bF,e,g1,g2,g3⟩:=r'.Jb hk bc dj FQ hne;have dS:=Xs (P:=P) (w:=w) ht hlen g1 g2 ym
       have J0:(execOp a.eval o).run P w=.ok .skip (w.setRow (m'.f id).bq (bF.toList.take ((m'.f id).base+off)++(a.eval x).cells.toList++bF.toList.drop ((m'.f id).base+off+(a.eval x).cells.toList.length)).toArray):=by
        simp only[execOp,ho,hy,Sem.run_bind,dS,Result.andThen_ok,Sem.run_pure]
       unfold Oper.wp;rw[J0,Oper.upon_skip];exact N4 h g3 hn
      ·cases h
     ·cases h
    ·cases h
   ·cases h
  ·cases h
 ·cases h
def zwV{y z:Operand}(ho:o.op=.pick x y z)
(h:match be fr x with
 |some (.bool Z)=>match be fr y with
  |some v=>bB c.nt K o.dst (.v v) fr H
  |none=>False
 |some (.bool aa)=>match be fr z with
  |some v=>bB c.nt K o.dst (.v v) fr H
  |none=>False
 |_=>False)(r:aX c m fr H a w)
(hn:∀m' ai H' a' w',K ai H'->aX c m' ai H' a' w'->next a' w'):o.wp P a w next Q:=by
 split at h
 ·rename_i hx;split at h
  ·rename_i v hy;have hb:=Kg (f8 r hx);unfold Oper.wp;have dS:(execOp a.eval o).run P w=.ok (.value (a.eval y)) w:=by simp[execOp,ho,hb,asBool]
   rw[dS];exact nM h r (f8 r hy) hn
  ·cases h
 ·rename_i hx;split at h
  ·rename_i v hy;have hb:=Kg (f8 r hx);unfold Oper.wp;have dS:(execOp a.eval o).run P w=.ok (.value (a.eval z)) w:=by simp[execOp,ho,hb,asBool]
   rw[dS];exact nM h r (f8 r hy) hn
  ·cases h
 ·cases h
def aX.fresh(r:aX c m fr H a w){cells:List Value}{cs:Array Value}{size:Nat}(e:TypeId)(h2:size<=cs.size)(h3:cells.length<=size)
(h6:∀(i:Nat) (v:Value),cells[i]? =J v->∃c,cs[i]? =J c/\V m v c):aX c (m.push ⟨w.heap.size,0,size⟩) fr (H.push ⟨Z,cells⟩) a (w.alloc (.cells cs e)):=
 (r.alloc cs e).push (l:=⟨w.heap.size,0,size⟩) (cs:=cs) (e:=e) (heap_alloc_new w _) (by simpa using h2) h3 (by simpa using h6)
   (λi k hi=>sC (r.h.Tn hi)) (λt ht=>by have:=r.Ct ht;simp at this) (r.me _ r.grow) (r.mn _ r.grow)
def LI{B len cap es size:Nat}(hn:m.n=H.n)(h2:cap*es<=size)(lo:Nat)(h3:len<=lo)(h4:lo<=cap):
 V (m.push ⟨B,0,size⟩) (.slice (J ⟨H.n,0,J es⟩) len lo) (.slice (J ⟨B,0,ae⟩) len cap):=by
 have hf:=m.Ab ⟨B,0,size⟩;have:=V.slice (m:=m.push ⟨B,0,size⟩) (id:=m.n) (off:=0) (es:=es) (n:=len) (c:=lo) (o:=0) (cap:=cap) (by simp[Mu.push]) h3 h4 (λ_=>by rw[hf]) (by rw[hf];simpa using h2);rw[hf,hn]at this;exact this
def zpJ{l cc:Operand}(ho:o.op=.makeSlice t l cc)
(h:match cR P t,be fr l,be fr cc with
 |some e,J (.int .i64 n),J (.int .i64 k)=>match cA P e with
  |some (_,es,cz,z)=>if 0<=n/\n<=k/\cz*k<=140737488355328/\k<=4611686018427387904/\z.length=es/\es≠0/\z.all cr=Z then
   bB c.nt K o.dst (.v (.slice (J ⟨H.n,0,J es⟩) n.toNat k.toNat)) fr (H.push ⟨Z,(List.replicate k.toNat z).flatten⟩)
   else False
  |none=>False
 |_,_,_=>False)(r:aX c m fr H a w)
(hn:∀m' ai H' a' w',K ai H'->aX c m' ai H' a' w'->next a' w'):o.wp P a w next Q:=by
 split at h
 ·rename_i e n k he hl hk;split at h
  ·rename_i g es cz z ht;split at h
   ·rename_i hc;obtain⟨c1,c2,c3,c4,c5,c6,c7⟩:=hc;obtain⟨i,zv,hi,hz,jj,eA,na,_,hs⟩:=jB (w:=w) ht;have e1:=Ar (f8 r hl);have e2:=Ar (f8 r hk);have dS:=run_make (P:=P) w t e i zv (pe he) hi hz .i64 .i64 n k c1 c2 (by rw[na];omega) (by omega)
    have J0:(execOp a.eval o).run P w=.ok (.value (.slice (J ⟨w.heap.size,0,ae⟩) n.toNat k.toNat)) (w.alloc (.cells (madeCells zv.cells (k.toNat*i.size)) e)):=by
     simp only[execOp,ho,e1,e2,Sem.run_bind,dS,Result.andThen_ok,Sem.run_pure]
    have Qf:(madeCells zv.cells (k.toNat*i.size)).toList=(List.replicate k.toNat z).flatten:=by
     have vn:zv.cells=z.toArray:=by rw[<-jj]
     rw[eA,vn,<-c5];exact HO z k.toNat
    have UR:(madeCells zv.cells (k.toNat*i.size)).size=k.toNat*es:=by
     rw[<-wa,Qf,T8];simp[c5]
    unfold Oper.wp;rw[J0];refine nM h (r.fresh (size:=k.toNat*es) e (by rw[UR];exact cy _) (by rw[<-Qf,wa,UR];exact cy _) λj v hj=>?_) ?_ hn
    ·refine⟨v,?_,?_⟩
     ·rw[<-T6,Qf];exact hj
     ·have Jl:=eo hj;rw[Ku]at Jl;obtain⟨l',Bk,g9⟩:=Jl;rw[(nr.1 Bk).2]at g9;exact Ns (bm.1 c7 v g9)
    ·exact LI r.h.n (cy _) _ (by omega) (cy _)
   ·cases h
  ·cases h
 ·cases h
def Y5(t ty e:TypeId)(i:TypeInfo)(ht:P.underlying t=J (.slice e))(hi:P.info? e=J i)
(g o cg eB:Nat)(bF:Array Value)(e':TypeId)(hg:w.heap[g]? =J (.cells bF e' (0,0)))
(ad:Addr)(n cp:Nat)(e8:List Value)(hl:e8.length=n*i.size)(LW:∀(j:Nat) (u:Value),e8[j]? =J u->w.cell? (ad.add j)=J u)(h1:∀u∈e8,u.oneCell'=Z)
(nA:cg+n<=eB)(hfit:o+cg*i.size+e8.length<=bF.size):
 (Builtin.append_ #[t,t] ty #[.slice (J ⟨g,o,ae⟩) cg eB,.slice (J ad) n cp]).run P w=
   .ok (.slice (J ⟨g,o,ae⟩) (cg+n) eB) (w.setRow g (bF.toList.take (o+cg*i.size)++e8++bF.toList.drop (o+cg*i.size+e8.length)).toArray):=by
 have hf:=run_firstCells_some (P:=P) w i.size n ad n cp e8 hl LW;have dH:=run_storeCells_at P g (o+cg*i.size) e' e8 0 bF w hg (by simpa using hfit) h1;simp only[rb]at dH;simp[Builtin.append_,run_underlying ht,sizeOf,typeInfo,hi,Builtin.lenOf,nA,hf,vo,dH]
def YP(t ty e:TypeId)(i:TypeInfo)(ht:P.underlying t=J (.slice e))(hi:P.info? e=J i)(s0 x0:Option Addr)(cg eB cp:Nat)(hc:cg<=eB):
 (Builtin.append_ #[t,t] ty #[.slice s0 cg eB,.slice x0 0 cp]).run P w=.ok (.slice s0 cg eB) w:=by
 have hf:(Builtin.firstCells i.size 0 (.slice x0 0 cp)).run P w=.ok #[] w:=by
  cases x0<;>simp[Builtin.firstCells,loadCells,loadCellsFrom]
 cases s0<;>simp[Builtin.append_,run_underlying ht,sizeOf,typeInfo,hi,Builtin.lenOf,hc,hf,storeCells]
def D2(r:aX c m fr H a w){e:TypeId}{e8:List Value}{n:Nat}{g:Bool}{es cz:Nat}{z:List Value}(he:cR P t=J e)(ht:cA P e=J (g,es,cz,z))(h:iy P t fr H x=J (e8,n)):
 e8.length=n*es/\∃ad cap,a.eval x=.slice ad n cap/\(0<n->∃b o ys,ad=J ⟨b,o,ae⟩/\Vl m e8 ys/\∀(j:Nat) (u:Value),ys[j]? =J u->w.cell? ((⟨b,o,ae⟩:Addr).add j)=J u):=by
 unfold iy at h;rw[he]at h;simp only[ht]at h;split at h
 ·rename_i s;split at h
  ·rename_i len bw cells hs;split at h
   ·rename_i e1;cases h;subst e1;have hf:=r.f s;unfold RF at hf;rw[hs]at hf;obtain⟨b,cs,ty,k1,k2,k3,k4⟩:=hf;refine⟨k4,J ⟨b,0,ae⟩,n,k1,λ_=>?_⟩;obtain⟨ys,q1,q2⟩:=(Ro k2 k3).list;exact⟨b,0,ys,rfl,q1,q2⟩
   ·cases h
  ·rename_i hs;cases h;have hv:=f8 r (x:=.tmp s) (v:=.slice ae 0 0) (by simp[be,hs]);generalize hy:a.eval (.tmp s)=y at hv;cases hv with
   |mH ad=>exact⟨by simp,ad,0,rfl,λh=>by omega⟩
  ·rename_i id off bw n' cp hs;have hv:=f8 r (x:=.tmp s) (v:=.slice (J ⟨id,off,J bw⟩) n' cp) (by simp[be,hs]);generalize hy:a.eval (.tmp s)=y at hv;cases hv with
   |slice bY k1 k2 k3 k4=>
    rename_i o cap;split at h
    ·cases h;rename_i sg;subst sg;exact⟨by simp,_,cap,rfl,λh=>by omega⟩
    ·split at h
     ·cases h
     ·rename_i sg hes;have Abs:es=bw:=by simpa using hes
      subst Abs;simp only[bR,bN]at h;obtain⟨cells,h1,l,h2,h3⟩:=h;cases h3;obtain⟨rfl,h4⟩:=Sj h2;simp only[AH.load,bN]at h1;obtain⟨k,hk,rfl⟩:=h1;have ho:=k3 (by omega);subst ho;refine⟨by simp at h4⊢;omega,_,cap,rfl,λ_=>?_⟩;obtain⟨ys,q1,q2⟩:=(((r.h.row hk).drop off).take (n*es)).list;exact⟨_,_,ys,rfl,q1,q2⟩
  ·cases h
 ·cases h;exact⟨by simp,ae,0,rfl,λh=>by omega⟩
 ·cases h
end
end Go.Am
