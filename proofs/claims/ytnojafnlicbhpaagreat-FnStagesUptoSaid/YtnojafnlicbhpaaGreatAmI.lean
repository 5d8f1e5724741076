import Derived.Test.YtnojafnlicbhpaaGreatAmH
open Bool renaming false→aa,true→Z
open Option renaming none→ae,some→J
set_option linter.defProp false
namespace Go.Am
def fm:=@List.getElem_mem
def Qe:=@List.getElem_of_mem
section
variable {c:rA}{m:Mu}{fr:FR}{H:AH}{a:Act}{w:World}{P:Program}{K:FR->AH->Prop}{next:Act->World->Prop}
variable{Q:Exit->Act->World->Prop}{o:Oper}{t:TypeId}{x:Operand}
def EC{xs ys:List Value}(h:Vl m xs ys)(hs:xs.all l8=Z):∀y∈ys,y.oneCell'=Z:=by
 intro y hy;obtain⟨i,hi,rfl⟩:=Qe hy;have hi':i<xs.length:=by rw[h.1];exact hi
 exact(h.2 i xs[i] ys[i] (cJ hi') (cJ hi)).a3m (bm.1 hs _ (fm hi'))
def zBF(H:AH)(id:Nat)(x y:Option mD):(H.set id x).set id y=H.set id y:=by
 unfold AH.set;congr 1;funext i;simp only;split<;>rfl
def aX.K8(r:aX c m fr H a w){id off:Nat}{k:mD}{k' xs ys:List Value}(hk:H.b id=J k)(bc:k.rw=Z)(dv:gq k.cells off xs=J k')(hv:Vl m xs ys)(hne:xs≠[]):
 ∃bI e,w.heap[(m.f id).bu]? =J (.cells bI e (0,0))/\(m.f id).base+off+ys.length<=bI.size/\
  aX c m fr (H.set id (J ⟨Z,k'⟩)) a (w.setRow (m.f id).bu (bI.toList.take ((m.f id).base+off)++ys++bI.toList.drop ((m.f id).base+off+ys.length)).toArray):=by
 obtain⟨bI,e,fz,h1,h2,h3,h5,h6⟩:=r.h.cells id k hk;rw[h5 bc]at h1;obtain⟨g1,g2,g3,g4⟩:=zxV h2 h3 h6 dv hv hne;refine⟨bI,e,h1,g1,?_⟩
 have At:∀i k2,(H.set id ae).b i=J k2->(m.f i).bu≠(m.f id).bu:=by
  intro i k2 hi;simp only[AH.set]at hi;split at hi
  ·cases hi
  ·rename_i hne;exact λe'=>r.h.apart id i k k2 hk hi (λe=>hne e.symm) bc e'.symm
 have dk:∀t,cP fr a.tmps t≠J (m.f id).bu:=λt ht=>r.apart t _ id k ht hk rfl
 have r1:=(r.kill id).Ur (B:=(m.f id).bu) (bI.toList.take ((m.f id).base+off)++ys++bI.toList.drop ((m.f id).base+off+ys.length)).toArray At dk (r.jG id k hk bc);have r2:=r1.a16 (id:=id) (cells:=k') (r.h.lt id k hk) (setRow_heap w _ bI _ e (0,0) h1) (by rw[g3];exact h2) (by rw[g2];exact h3) g4 At dk (r.jG id k hk bc) (r.mE id k hk);rw[zBF]at r2;exact r2
def zne{sz b o:Nat}{g:Bool}{cG:Nat}{z:List Value}{y:Value}{bI:Array Value}{e:TypeId}(ht:cF P t=J (g,sz,cG,z))(hl:y.cells.toList.length=sz)
(hg:w.heap[b]? =J (.cells bI e (0,0)))(hfit:o+y.cells.toList.length<=bI.size)(h1:∀v∈y.cells.toList,v.oneCell'=Z):
 (Instr.storeAt t (.pointer (J ⟨b,o,ae⟩)) y).run P w=.ok () (w.setRow b (bI.toList.take o++y.cells.toList++bI.toList.drop (o+y.cells.toList.length)).toArray):=by
 obtain⟨_,_,_,_,_,_,_,_,hs⟩:=jN (w:=w) ht;have dO:=run_storeCells_at P b o e y.cells.toList 0 bI w hg (by simpa using hfit) h1;simp only[rQ]at dO;have eI:y.cells.size=sz:=by rw[<-hl];simp
 simp only[Instr.storeAt,Instr.sureAddr,Sem.run_bind,Sem.run_pure,Result.andThen_ok,storeVar,hs,eI,ne_eq,not_true_eq_false,my,dO]
def zuu{ad:Operand}(ho:o.op=.store t ad x)
(h:match bg fr H x,cF P t with
 |some (v,ak,H'),J (_,sz,_)=>
  if mH v=Z/\v.cells.toList.length=sz/\sz≠0/\v.cells.toList.all l8=Z then
   match bO ak ad with
   |some (.lp s off)=>match ak s with
    | .loc cells=>match gq cells off v.cells.toList with
     |some cs=>bC c.nt K o.dst .skip (ak.put s (.loc cs)) H'
     |none=>False
    |_=>False
   |some (.v (.pointer (J ⟨id,off,ae⟩)))=>match H'.b id with
    |some k=>if k.rw=Z then match gq k.cells off v.cells.toList with
     |some cs=>bC c.nt K o.dst .skip ak (H'.set id (J ⟨Z,cs⟩))
     |none=>False
     else False
    |none=>False
   |_=>False
  else False
 |_,_=>False)(r:aX c m fr H a w)
(hn:∀m' ak H' a' w',K ak H'->aX c m' ak H' a' w'->next a' w'):o.wp P a w next Q:=by
 split at h
 ·rename_i v ak H' g sz bz hm ht;obtain⟨cG,z⟩:=bz;split at h
  ·rename_i hc;obtain⟨c1,c2,c3,c4⟩:=hc;obtain⟨m',da,r',hv⟩:=SQ r hm;have GI:=hv.cells (λe=>by rw[e]at c1;simp[mH]at c1);have hlen:(a.eval x).cells.toList.length=sz:=by rw[<-GI.1];exact c2
   have yx:=EC GI c4;have hne:v.cells.toList≠[]:=λe=>by rw[e]at c2;exact c3 c2.symm
   split at h
   ·rename_i s off ha;split at h
    ·rename_i cells hs;split at h
     ·rename_i cs dv;obtain⟨dF,b,k1,k2,k3⟩:=sP r' ha;have hf:=r'.f s;unfold RF at hf;rw[hs]at hf;obtain⟨b',bI,e,g1,g2,g3⟩:=hf;rw[k2]at g1;cases g1;rcases HU dv with⟨e0,_⟩|⟨Po,rfl⟩
      ·exact absurd e0 hne
      ·have gl:=g3.1;have gl2:=xI (xs:=bI);have hfit:off+(a.eval x).cells.toList.length<=bI.size:=by rw[<-GI.1];omega
       have dV:=zne (P:=P) (w:=w) (b:=b) (o:=off) ht hlen g2 hfit yx
       have Kg:(execOp a.eval o).run P w=.ok .skip (w.setRow b (bI.toList.take off++(a.eval x).cells.toList++bI.toList.drop (off+(a.eval x).cells.toList.length)).toArray):=by
        simp only[execOp,ho,k3,Sem.run_bind,dV,Result.andThen_ok,Sem.run_pure]
       unfold Oper.wp;rw[Kg,Oper.upon_skip];refine PQ h (r'.a3V hs k2 g2 ?_) hn;simp only;rw[<-GI.1];exact((g3.take off).append GI).append (g3.drop _)
     ·cases h
    ·cases h
   ·rename_i id off ha;split at h
    ·rename_i k hk;split at h
     ·rename_i bc;split at h
      ·rename_i cs dv;have hp:V m' (.pointer (J ⟨id,off,ae⟩)) (a.eval ad):=sP r' ha;obtain⟨b9,hy⟩:=Rr hp;obtain⟨bI,e,g1,g2,g3⟩:=r'.K8 hk bc dv GI hne;have dV:=zne (P:=P) (w:=w) ht hlen g1 g2 yx
       have Kg:(execOp a.eval o).run P w=.ok .skip (w.setRow (m'.f id).bu (bI.toList.take ((m'.f id).base+off)++(a.eval x).cells.toList++bI.toList.drop ((m'.f id).base+off+(a.eval x).cells.toList.length)).toArray):=by
        simp only[execOp,ho,hy,Sem.run_bind,dV,Result.andThen_ok,Sem.run_pure]
       unfold Oper.wp;rw[Kg,Oper.upon_skip];exact PQ h g3 hn
      ·cases h
     ·cases h
    ·cases h
   ·cases h
  ·cases h
 ·cases h
def zv9{y z:Operand}(ho:o.op=.pick x y z)
(h:match be fr x with
 |some (.bool Z)=>match be fr y with
  |some v=>bC c.nt K o.dst (.v v) fr H
  |none=>False
 |some (.bool aa)=>match be fr z with
  |some v=>bC c.nt K o.dst (.v v) fr H
  |none=>False
 |_=>False)(r:aX c m fr H a w)
(hn:∀m' ak H' a' w',K ak H'->aX c m' ak H' a' w'->next a' w'):o.wp P a w next Q:=by
 split at h
 ·rename_i hx;split at h
  ·rename_i v hy;have hb:=LM (gx r hx);unfold Oper.wp;have dV:(execOp a.eval o).run P w=.ok (.value (a.eval y)) w:=by simp[execOp,ho,hb,asBool]
   rw[dV];exact od h r (gx r hy) hn
  ·cases h
 ·rename_i hx;split at h
  ·rename_i v hy;have hb:=LM (gx r hx);unfold Oper.wp;have dV:(execOp a.eval o).run P w=.ok (.value (a.eval z)) w:=by simp[execOp,ho,hb,asBool]
   rw[dV];exact od h r (gx r hy) hn
  ·cases h
 ·cases h
def aX.fresh(r:aX c m fr H a w){cells:List Value}{cs:Array Value}{size:Nat}(e:TypeId)(h2:size<=cs.size)(h3:cells.length<=size)
(h6:∀(i:Nat) (v:Value),cells[i]? =J v->∃c,cs[i]? =J c/\V m v c):aX c (m.push ⟨w.heap.size,0,size⟩) fr (H.push ⟨Z,cells⟩) a (w.alloc (.cells cs e)):=
 (r.alloc cs e).push (l:=⟨w.heap.size,0,size⟩) (cs:=cs) (e:=e) (heap_alloc_new w _) (by simpa using h2) h3 (by simpa using h6)
   (λi k hi=>td (r.h.Tl hi)) (λt ht=>by have:=r.Cn ht;simp at this) (r.mU _ r.grow) (r.mQ _ r.grow)
def O6{B len cap es size:Nat}(hn:m.n=H.n)(h2:cap*es<=size)(lo:Nat)(h3:len<=lo)(h4:lo<=cap):
 V (m.push ⟨B,0,size⟩) (.slice (J ⟨H.n,0,J es⟩) len lo) (.slice (J ⟨B,0,ae⟩) len cap):=by
 have hf:=m.BB ⟨B,0,size⟩;have:=V.slice (m:=m.push ⟨B,0,size⟩) (id:=m.n) (off:=0) (es:=es) (n:=len) (c:=lo) (o:=0) (cap:=cap) (by simp[Mu.push]) h3 h4 (λ_=>by rw[hf]) (by rw[hf];simpa using h2);rw[hf,hn]at this;exact this
def zqg{l cc:Operand}(ho:o.op=.makeSlice t l cc)
(h:match cW P t,be fr l,be fr cc with
 |some e,J (.int .i64 n),J (.int .i64 k)=>match cF P e with
  |some (_,es,cG,z)=>if 0<=n/\n<=k/\cG*k<=140737488355328/\k<=4611686018427387904/\z.length=es/\es≠0/\z.all cz=Z then
   bC c.nt K o.dst (.v (.slice (J ⟨H.n,0,J es⟩) n.toNat k.toNat)) fr (H.push ⟨Z,(List.replicate k.toNat z).flatten⟩)
   else False
  |none=>False
 |_,_,_=>False)(r:aX c m fr H a w)
(hn:∀m' ak H' a' w',K ak H'->aX c m' ak H' a' w'->next a' w'):o.wp P a w next Q:=by
 split at h
 ·rename_i e n k he hl hk;split at h
  ·rename_i g es cG z ht;split at h
   ·rename_i hc;obtain⟨c1,c2,c3,c4,c5,c6,c7⟩:=hc;obtain⟨i,zv,hi,hz,jC,eI,nJ,_,hs⟩:=jN (w:=w) ht;have e1:=A8 (gx r hl);have e2:=A8 (gx r hk);have dV:=run_make (P:=P) w t e i zv (qu he) hi hz .i64 .i64 n k c1 c2 (by rw[nJ];omega) (by omega)
    have Kg:(execOp a.eval o).run P w=.ok (.value (.slice (J ⟨w.heap.size,0,ae⟩) n.toNat k.toNat)) (w.alloc (.cells (madeCells zv.cells (k.toNat*i.size)) e)):=by
     simp only[execOp,ho,e1,e2,Sem.run_bind,dV,Result.andThen_ok,Sem.run_pure]
    have UC:(madeCells zv.cells (k.toNat*i.size)).toList=(List.replicate k.toNat z).flatten:=by
     have vi:zv.cells=z.toArray:=by rw[<-jC]
     rw[eI,vi,<-c5];exact Kk z k.toNat
    have Xa:(madeCells zv.cells (k.toNat*i.size)).size=k.toNat*es:=by
     rw[<-xI,UC,VX];simp[c5]
    unfold Oper.wp;rw[Kg];refine od h (r.fresh (size:=k.toNat*es) e (by rw[Xa];exact cB _) (by rw[<-UC,xI,Xa];exact cB _) λj v hj=>?_) ?_ hn
    ·refine⟨v,?_,?_⟩
     ·rw[<-VV,UC];exact hj
     ·have Lk:=eA hj;rw[LZ]at Lk;obtain⟨l',Do,iv⟩:=Lk;rw[(nN.1 Do).2]at iv;exact OX (bm.1 c7 v iv)
    ·exact O6 r.h.n (cB _) _ (by omega) (cB _)
   ·cases h
  ·cases h
 ·cases h
def Z2(t ty e:TypeId)(i:TypeInfo)(ht:P.underlying t=J (.slice e))(hi:P.info? e=J i)
(g o cj eM:Nat)(bI:Array Value)(e':TypeId)(hg:w.heap[g]? =J (.cells bI e' (0,0)))
(ad:Addr)(n cp:Nat)(fi:List Value)(hl:fi.length=n*i.size)(MA:∀(j:Nat) (u:Value),fi[j]? =J u->w.cell? (ad.add j)=J u)(h1:∀u∈fi,u.oneCell'=Z)
(nV:cj+n<=eM)(hfit:o+cj*i.size+fi.length<=bI.size):
 (Builtin.append_ #[t,t] ty #[.slice (J ⟨g,o,ae⟩) cj eM,.slice (J ad) n cp]).run P w=
   .ok (.slice (J ⟨g,o,ae⟩) (cj+n) eM) (w.setRow g (bI.toList.take (o+cj*i.size)++fi++bI.toList.drop (o+cj*i.size+fi.length)).toArray):=by
 have hf:=run_firstCells_some (P:=P) w i.size n ad n cp fi hl MA;have dO:=run_storeCells_at P g (o+cj*i.size) e' fi 0 bI w hg (by simpa using hfit) h1;simp only[rQ]at dO;simp[Builtin.append_,run_underlying ht,sizeOf,typeInfo,hi,Builtin.lenOf,nV,hf,vt,dO]
def Yk(t ty e:TypeId)(i:TypeInfo)(ht:P.underlying t=J (.slice e))(hi:P.info? e=J i)(s0 x0:Option Addr)(cj eM cp:Nat)(hc:cj<=eM):
 (Builtin.append_ #[t,t] ty #[.slice s0 cj eM,.slice x0 0 cp]).run P w=.ok (.slice s0 cj eM) w:=by
 have hf:(Builtin.firstCells i.size 0 (.slice x0 0 cp)).run P w=.ok #[] w:=by
  cases x0<;>simp[Builtin.firstCells,loadCells,loadCellsFrom]
 cases s0<;>simp[Builtin.append_,run_underlying ht,sizeOf,typeInfo,hi,Builtin.lenOf,hc,hf,storeCells]
def HA(r:aX c m fr H a w){e:TypeId}{fi:List Value}{n:Nat}{g:Bool}{es cG:Nat}{z:List Value}(he:cW P t=J e)(ht:cF P e=J (g,es,cG,z))(h:iD P t fr H x=J (fi,n)):
 fi.length=n*es/\∃ad cap,a.eval x=.slice ad n cap/\(0<n->∃b o ys,ad=J ⟨b,o,ae⟩/\Vl m fi ys/\∀(j:Nat) (u:Value),ys[j]? =J u->w.cell? ((⟨b,o,ae⟩:Addr).add j)=J u):=by
 unfold iD at h;rw[he]at h;simp only[ht]at h;split at h
 ·rename_i s;split at h
  ·rename_i len bA cells hs;split at h
   ·rename_i e1;cases h;subst e1;have hf:=r.f s;unfold RF at hf;rw[hs]at hf;obtain⟨b,cs,ty,k1,k2,k3,k4⟩:=hf;refine⟨k4,J ⟨b,0,ae⟩,n,k1,λ_=>?_⟩;obtain⟨ys,q1,q2⟩:=(Vh k2 k3).list;exact⟨b,0,ys,rfl,q1,q2⟩
   ·cases h
  ·rename_i hs;cases h;have hv:=gx r (x:=.tmp s) (v:=.slice ae 0 0) (by simp[be,hs]);generalize hy:a.eval (.tmp s)=y at hv;cases hv with
   |mK ad=>exact⟨by simp,ad,0,rfl,λh=>by omega⟩
  ·rename_i id off bA n' cp hs;have hv:=gx r (x:=.tmp s) (v:=.slice (J ⟨id,off,J bA⟩) n' cp) (by simp[be,hs]);generalize hy:a.eval (.tmp s)=y at hv;cases hv with
   |slice b9 k1 k2 k3 k4=>
    rename_i o cap;split at h
    ·cases h;rename_i tc;subst tc;exact⟨by simp,_,cap,rfl,λh=>by omega⟩
    ·split at h
     ·cases h
     ·rename_i tc hes;have a2p:es=bA:=by simpa using hes
      subst a2p;simp only[bW,bP]at h;obtain⟨cells,h1,l,h2,h3⟩:=h;cases h3;obtain⟨rfl,h4⟩:=SV h2;simp only[AH.load,bP]at h1;obtain⟨k,hk,rfl⟩:=h1;have ho:=k3 (by omega);subst ho;refine⟨by simp at h4⊢;omega,_,cap,rfl,λ_=>?_⟩;obtain⟨ys,q1,q2⟩:=(((r.h.row hk).drop off).take (n*es)).list;exact⟨_,_,ys,rfl,q1,q2⟩
  ·cases h
 ·cases h;exact⟨by simp,ae,0,rfl,λh=>by omega⟩
 ·cases h
end
end Go.Am
