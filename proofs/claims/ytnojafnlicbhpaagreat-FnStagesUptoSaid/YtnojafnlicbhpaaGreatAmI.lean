import Derived.Test.YtnojafnlicbhpaaGreatAmH
open Bool renaming false→aa,true→Z
open Option renaming none→ae,some→J
set_option linter.defProp false
namespace Go.Am
def e9:=@List.getElem_mem
def OA:=@List.getElem_of_mem
section
variable {c:q9}{m:Mu}{fr:FR}{H:AH}{a:Act}{w:World}{P:Program}{K:FR->AH->Prop}{next:Act->World->Prop}
variable{Q:Exit->Act->World->Prop}{o:Oper}{t:TypeId}{x:Operand}
def Gc{xs ys:List Value}(h:Vl m xs ys)(hs:xs.all lQ=Z):∀y∈ys,y.oneCell'=Z:=by
 intro y hy;obtain⟨i,hi,rfl⟩:=OA hy;have hi':i<xs.length:=by rw[h.1];exact hi
 exact(h.2 i xs[i] ys[i] (cE hi') (cE hi)).a0S (bm.1 hs _ (e9 hi'))
def zBm(H:AH)(id:Nat)(x y:Option mi):(H.set id x).set id y=H.set id y:=by
 unfold AH.set;congr 1;funext i;simp only;split<;>rfl
def aX.HC(r:aX c m fr H a w){id off:Nat}{k:mi}{k' xs ys:List Value}(hk:H.b id=J k)(bc:k.rw=Z)(dn:fY k.cells off xs=J k')(hv:Vl m xs ys)(hne:xs≠[]):
 ∃bF e,w.heap[(m.f id).bq]? =J (.cells bF e (0,0))/\(m.f id).base+off+ys.length<=bF.size/\
  aX c m fr (H.set id (J ⟨Z,k'⟩)) a (w.setRow (m.f id).bq (bF.toList.take ((m.f id).base+off)++ys++bF.toList.drop ((m.f id).base+off+ys.length)).toArray):=by
 obtain⟨bF,e,fz,h1,h2,h3,h5,h6⟩:=r.h.cells id k hk;rw[h5 bc]at h1;obtain⟨g1,g2,g3,g4⟩:=zyG h2 h3 h6 dn hv hne;refine⟨bF,e,h1,g1,?_⟩
 have zD:∀i k2,(H.set id ae).b i=J k2->(m.f i).bq≠(m.f id).bq:=by
  intro i k2 hi;simp only[AH.set]at hi;split at hi
  ·cases hi
  ·rename_i hne;exact λe'=>r.h.apart id i k k2 hk hi (λe=>hne e.symm) bc e'.symm
 have df:∀t,cK fr a.tmps t≠J (m.f id).bq:=λt ht=>r.apart t _ id k ht hk rfl
 have r1:=(r.kill id).Tu (B:=(m.f id).bq) (bF.toList.take ((m.f id).base+off)++ys++bF.toList.drop ((m.f id).base+off+ys.length)).toArray zD df (r.jm id k hk bc);have r2:=r1.a1Y (id:=id) (cells:=k') (r.h.lt id k hk) (setRow_heap w _ bF _ e (0,0) h1) (by rw[g3];exact h2) (by rw[g2];exact h3) g4 zD df (r.jm id k hk bc) (r.mj id k hk);rw[zBm]at r2;exact r2
def Wm{sz b o:Nat}{g:Bool}{cB:Nat}{z:List Value}{y:Value}{bF:Array Value}{e:TypeId}(ht:cA P t=J (g,sz,cB,z))(hl:y.cells.toList.length=sz)
(hg:w.heap[b]? =J (.cells bF e (0,0)))(hfit:o+y.cells.toList.length<=bF.size)(h1:∀v∈y.cells.toList,v.oneCell'=Z):
 (Instr.storeAt t (.pointer (J ⟨b,o,ae⟩)) y).run P w=.ok () (w.setRow b (bF.toList.take o++y.cells.toList++bF.toList.drop (o+y.cells.toList.length)).toArray):=by
 obtain⟨_,_,_,_,_,_,_,_,hs⟩:=ju (w:=w) ht;have dH:=run_storeCells_at P b o e y.cells.toList 0 bF w hg (by simpa using hfit) h1;simp only[rc]at dH;have ey:y.cells.size=sz:=by rw[<-hl];simp
 simp only[Instr.storeAt,Instr.sureAddr,Sem.run_bind,Sem.run_pure,Result.andThen_ok,storeVar,hs,ey,ne_eq,not_true_eq_false,l7,dH]
def zun{ad:Operand}(ho:o.op=.store t ad x)
(h:match bh fr H x,cA P t with
 |some (v,ai,H'),J (_,sz,_)=>
  if mD v=Z/\v.cells.toList.length=sz/\sz≠0/\v.cells.toList.all lQ=Z then
   match bM ai ad with
   |some (.lp s off)=>match ai s with
    | .loc cells=>match fY cells off v.cells.toList with
     |some cs=>bB c.nt K o.dst .skip (ai.put s (.loc cs)) H'
     |none=>False
    |_=>False
   |some (.v (.pointer (J ⟨id,off,ae⟩)))=>match H'.b id with
    |some k=>if k.rw=Z then match fY k.cells off v.cells.toList with
     |some cs=>bB c.nt K o.dst .skip ai (H'.set id (J ⟨Z,cs⟩))
     |none=>False
     else False
    |none=>False
   |_=>False
  else False
 |_,_=>False)(r:aX c m fr H a w)
(hn:∀m' ai H' a' w',K ai H'->aX c m' ai H' a' w'->next a' w'):o.wp P a w next Q:=by
 split at h
 ·rename_i v ai H' g sz bz hm ht;obtain⟨cB,z⟩:=bz;split at h
  ·rename_i hc;obtain⟨c1,c2,c3,c4⟩:=hc;obtain⟨m',cV,r',hv⟩:=Pn r hm;have Fp:=hv.cells (λe=>by rw[e]at c1;simp[mD]at c1);have hlen:(a.eval x).cells.toList.length=sz:=by rw[<-Fp.1];exact c2
   have xV:=Gc Fp c4;have hne:v.cells.toList≠[]:=λe=>by rw[e]at c2;exact c3 c2.symm
   split at h
   ·rename_i s off ha;split at h
    ·rename_i cells hs;split at h
     ·rename_i cs dn;obtain⟨dw,b,k1,k2,k3⟩:=si r' ha;have hf:=r'.f s;unfold RF at hf;rw[hs]at hf;obtain⟨b',bF,e,g1,g2,g3⟩:=hf;rw[k2]at g1;cases g1;rcases IU dn with⟨e0,_⟩|⟨Me,rfl⟩
      ·exact absurd e0 hne
      ·have gl:=g3.1;have gl2:=wb (xs:=bF);have hfit:off+(a.eval x).cells.toList.length<=bF.size:=by rw[<-Fp.1];omega
       have dL:=Wm (P:=P) (w:=w) (b:=b) (o:=off) ht hlen g2 hfit xV
       have G3:(execOp a.eval o).run P w=.ok .skip (w.setRow b (bF.toList.take off++(a.eval x).cells.toList++bF.toList.drop (off+(a.eval x).cells.toList.length)).toArray):=by
        simp only[execOp,ho,k3,Sem.run_bind,dL,Result.andThen_ok,Sem.run_pure]
       unfold Oper.wp;rw[G3,Oper.upon_skip];refine L9 h (r'.a1c hs k2 g2 ?_) hn;simp only;rw[<-Fp.1];exact((g3.take off).append Fp).append (g3.drop _)
     ·cases h
    ·cases h
   ·rename_i id off ha;split at h
    ·rename_i k hk;split at h
     ·rename_i bc;split at h
      ·rename_i cs dn;have hp:V m' (.pointer (J ⟨id,off,ae⟩)) (a.eval ad):=si r' ha;obtain⟨bY,hy⟩:=Tm hp;obtain⟨bF,e,g1,g2,g3⟩:=r'.HC hk bc dn Fp hne;have dL:=Wm (P:=P) (w:=w) ht hlen g1 g2 xV
       have G3:(execOp a.eval o).run P w=.ok .skip (w.setRow (m'.f id).bq (bF.toList.take ((m'.f id).base+off)++(a.eval x).cells.toList++bF.toList.drop ((m'.f id).base+off+(a.eval x).cells.toList.length)).toArray):=by
        simp only[execOp,ho,hy,Sem.run_bind,dL,Result.andThen_ok,Sem.run_pure]
       unfold Oper.wp;rw[G3,Oper.upon_skip];exact L9 h g3 hn
      ·cases h
     ·cases h
    ·cases h
   ·cases h
  ·cases h
 ·cases h
def zv1{y z:Operand}(ho:o.op=.pick x y z)
(h:match be fr x with
 |some (.bool Z)=>match be fr y with
  |some v=>bB c.nt K o.dst (.v v) fr H
  |none=>False
 |some (.bool aa)=>match be fr z with
  |some v=>bB c.nt K o.dst (.v v) fr H
  |none=>False
 |_=>False)(r:aX c m fr H a w)
(hn:∀m' ai H' a' w',K ai H'->aX c m' ai H' a' w'->next a' w'):o.wp P a w next Q:=by
 split at h
 ·rename_i hx;split at h
  ·rename_i v hy;have hb:=G4 (f8 r hx);unfold Oper.wp;have dL:(execOp a.eval o).run P w=.ok (.value (a.eval y)) w:=by simp[execOp,ho,hb,asBool]
   rw[dL];exact nC h r (f8 r hy) hn
  ·cases h
 ·rename_i hx;split at h
  ·rename_i v hy;have hb:=G4 (f8 r hx);unfold Oper.wp;have dL:(execOp a.eval o).run P w=.ok (.value (a.eval z)) w:=by simp[execOp,ho,hb,asBool]
   rw[dL];exact nC h r (f8 r hy) hn
  ·cases h
 ·cases h
def aX.fresh(r:aX c m fr H a w){cells:List Value}{cs:Array Value}{size:Nat}(e:TypeId)(h2:size<=cs.size)(h3:cells.length<=size)
(h6:∀(i:Nat) (v:Value),cells[i]? =J v->∃c,cs[i]? =J c/\V m v c):aX c (m.push ⟨w.heap.size,0,size⟩) fr (H.push ⟨Z,cells⟩) a (w.alloc (.cells cs e)):=
 (r.alloc cs e).push (l:=⟨w.heap.size,0,size⟩) (cs:=cs) (e:=e) (heap_alloc_new w _) (by simpa using h2) h3 (by simpa using h6)
   (λi k hi=>sD (r.h.Th hi)) (λt ht=>by have:=r.Bf ht;simp at this) (r.mC _ r.grow) (r.mI _ r.grow)
def Lj{B len cap es size:Nat}(hn:m.n=H.n)(h2:cap*es<=size)(lo:Nat)(h3:len<=lo)(h4:lo<=cap):
 V (m.push ⟨B,0,size⟩) (.slice (J ⟨H.n,0,J es⟩) len lo) (.slice (J ⟨B,0,ae⟩) len cap):=by
 have hf:=m.yE ⟨B,0,size⟩;have:=V.slice (m:=m.push ⟨B,0,size⟩) (id:=m.n) (off:=0) (es:=es) (n:=len) (c:=lo) (o:=0) (cap:=cap) (by simp[Mu.push]) h3 h4 (λ_=>by rw[hf]) (by rw[hf];simpa using h2);rw[hf,hn]at this;exact this
def zqf{l cc:Operand}(ho:o.op=.makeSlice t l cc)
(h:match cS P t,be fr l,be fr cc with
 |some e,J (.int .i64 n),J (.int .i64 k)=>match cA P e with
  |some (_,es,cB,z)=>if 0<=n/\n<=k/\cB*k<=140737488355328/\k<=4611686018427387904/\z.length=es/\es≠0/\z.all ct=Z then
   bB c.nt K o.dst (.v (.slice (J ⟨H.n,0,J es⟩) n.toNat k.toNat)) fr (H.push ⟨Z,(List.replicate k.toNat z).flatten⟩)
   else False
  |none=>False
 |_,_,_=>False)(r:aX c m fr H a w)
(hn:∀m' ai H' a' w',K ai H'->aX c m' ai H' a' w'->next a' w'):o.wp P a w next Q:=by
 split at h
 ·rename_i e n k he hl hk;split at h
  ·rename_i g es cB z ht;split at h
   ·rename_i hc;obtain⟨c1,c2,c3,c4,c5,c6,c7⟩:=hc;obtain⟨i,zv,hi,hz,jo,ey,nh,_,hs⟩:=ju (w:=w) ht;have e1:=Ap (f8 r hl);have e2:=Ap (f8 r hk);have dL:=run_make (P:=P) w t e i zv (pu he) hi hz .i64 .i64 n k c1 c2 (by rw[nh];omega) (by omega)
    have G3:(execOp a.eval o).run P w=.ok (.value (.slice (J ⟨w.heap.size,0,ae⟩) n.toNat k.toNat)) (w.alloc (.cells (madeCells zv.cells (k.toNat*i.size)) e)):=by
     simp only[execOp,ho,e1,e2,Sem.run_bind,dL,Result.andThen_ok,Sem.run_pure]
    have RC:(madeCells zv.cells (k.toNat*i.size)).toList=(List.replicate k.toNat z).flatten:=by
     have uW:zv.cells=z.toArray:=by rw[<-jo]
     rw[ey,uW,<-c5];exact IA z k.toNat
    have WI:(madeCells zv.cells (k.toNat*i.size)).size=k.toNat*es:=by
     rw[<-wb,RC,Ug];simp[c5]
    unfold Oper.wp;rw[G3];refine nC h (r.fresh (size:=k.toNat*es) e (by rw[WI];exact cy _) (by rw[<-RC,wb,WI];exact cy _) λj v hj=>?_) ?_ hn
    ·refine⟨v,?_,?_⟩
     ·rw[<-Ue,RC];exact hj
     ·have Hb:=eo hj;rw[Kx]at Hb;obtain⟨l',CF,g9⟩:=Hb;rw[(nu.1 CF).2]at g9;exact La (bm.1 c7 v g9)
    ·exact Lj r.h.n (cy _) _ (by omega) (cy _)
   ·cases h
  ·cases h
 ·cases h
def zkT(t ty e:TypeId)(i:TypeInfo)(ht:P.underlying t=J (.slice e))(hi:P.info? e=J i)
(g o cg eA:Nat)(bF:Array Value)(e':TypeId)(hg:w.heap[g]? =J (.cells bF e' (0,0)))
(ad:Addr)(n cp:Nat)(e7:List Value)(hl:e7.length=n*i.size)(L0:∀(j:Nat) (u:Value),e7[j]? =J u->w.cell? (ad.add j)=J u)(h1:∀u∈e7,u.oneCell'=Z)
(nH:cg+n<=eA)(hfit:o+cg*i.size+e7.length<=bF.size):
 (Builtin.append_ #[t,t] ty #[.slice (J ⟨g,o,ae⟩) cg eA,.slice (J ad) n cp]).run P w=
   .ok (.slice (J ⟨g,o,ae⟩) (cg+n) eA) (w.setRow g (bF.toList.take (o+cg*i.size)++e7++bF.toList.drop (o+cg*i.size+e7.length)).toArray):=by
 have hf:=run_firstCells_some (P:=P) w i.size n ad n cp e7 hl L0;have dH:=run_storeCells_at P g (o+cg*i.size) e' e7 0 bF w hg (by simpa using hfit) h1;simp only[rc]at dH;simp[Builtin.append_,run_underlying ht,sizeOf,typeInfo,hi,Builtin.lenOf,nH,hf,ur,dH]
def zlv(t ty e:TypeId)(i:TypeInfo)(ht:P.underlying t=J (.slice e))(hi:P.info? e=J i)(s0 x0:Option Addr)(cg eA cp:Nat)(hc:cg<=eA):
 (Builtin.append_ #[t,t] ty #[.slice s0 cg eA,.slice x0 0 cp]).run P w=.ok (.slice s0 cg eA) w:=by
 have hf:(Builtin.firstCells i.size 0 (.slice x0 0 cp)).run P w=.ok #[] w:=by
  cases x0<;>simp[Builtin.firstCells,loadCells,loadCellsFrom]
 cases s0<;>simp[Builtin.append_,run_underlying ht,sizeOf,typeInfo,hi,Builtin.lenOf,hc,hf,storeCells]
def Ei(r:aX c m fr H a w){e:TypeId}{e7:List Value}{n:Nat}{g:Bool}{es cB:Nat}{z:List Value}(he:cS P t=J e)(ht:cA P e=J (g,es,cB,z))(h:iq P t fr H x=J (e7,n)):
 e7.length=n*es/\∃ad cap,a.eval x=.slice ad n cap/\(0<n->∃b o ys,ad=J ⟨b,o,ae⟩/\Vl m e7 ys/\∀(j:Nat) (u:Value),ys[j]? =J u->w.cell? ((⟨b,o,ae⟩:Addr).add j)=J u):=by
 unfold iq at h;rw[he]at h;simp only[ht]at h;split at h
 ·rename_i s;split at h
  ·rename_i len bw cells hs;split at h
   ·rename_i e1;cases h;subst e1;have hf:=r.f s;unfold RF at hf;rw[hs]at hf;obtain⟨b,cs,ty,k1,k2,k3,k4⟩:=hf;refine⟨k4,J ⟨b,0,ae⟩,n,k1,λ_=>?_⟩;obtain⟨ys,q1,q2⟩:=(TM k2 k3).list;exact⟨b,0,ys,rfl,q1,q2⟩
   ·cases h
  ·rename_i hs;cases h;have hv:=f8 r (x:=.tmp s) (v:=.slice ae 0 0) (by simp[be,hs]);generalize hy:a.eval (.tmp s)=y at hv;cases hv with
   |mf ad=>exact⟨by simp,ad,0,rfl,λh=>by omega⟩
  ·rename_i id off bw n' cp hs;have hv:=f8 r (x:=.tmp s) (v:=.slice (J ⟨id,off,J bw⟩) n' cp) (by simp[be,hs]);generalize hy:a.eval (.tmp s)=y at hv;cases hv with
   |slice bY k1 k2 k3 k4=>
    rename_i o cap;split at h
    ·cases h;rename_i sy;subst sy;exact⟨by simp,_,cap,rfl,λh=>by omega⟩
    ·split at h
     ·cases h
     ·rename_i sy hes;have a0O:es=bw:=by simpa using hes
      subst a0O;simp only[bR,bN]at h;obtain⟨cells,h1,l,h2,h3⟩:=h;cases h3;obtain⟨rfl,h4⟩:=Qr h2;simp only[AH.load,bN]at h1;obtain⟨k,hk,rfl⟩:=h1;have ho:=k3 (by omega);subst ho;refine⟨by simp at h4⊢;omega,_,cap,rfl,λ_=>?_⟩;obtain⟨ys,q1,q2⟩:=(((r.h.row hk).drop off).take (n*es)).list;exact⟨_,_,ys,rfl,q1,q2⟩
  ·cases h
 ·cases h;exact⟨by simp,ae,0,rfl,λh=>by omega⟩
 ·cases h
end
end Go.Am
