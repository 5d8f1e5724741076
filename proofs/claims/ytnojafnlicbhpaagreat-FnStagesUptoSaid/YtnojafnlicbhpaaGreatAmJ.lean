import Derived.Test.YtnojafnlicbhpaaGreatAmI
open Option renaming none→ae,some→J
open Bool renaming true→Z
set_option linter.defProp false
namespace Go.Am
def bT:=@List.length_append
def jT:=@List.map_cons
def nO:=@List.length_take
def qI:=@List.map_nil
def Qf:=@Nat.pos_of_ne_zero
def VY:=@List.map_toArray
def VZ:=@Nat.mul_pos
section
variable {c:rA}{m:Mu}{fr:FR}{H:AH}{a:Act}{w:World}{P:Program}{K:FR->AH->Prop}{next:Act->World->Prop}
variable{fi:List Value}
def Rf{lh gz LR:List Value}{zv:Value}{es k need:Nat}(h1:Vl m lh gz)(h2:Vl m fi LR)(hl:(lh++fi).length=need*es)(hz:zv.cells.size=es)(hk:need<=k):
 k*es<=(gz.toArray++LR.toArray++Builtin.zeroCells zv.cells (k-need)).size/\(lh++fi).length<=k*es/\
  ∀(i:Nat) (v:Value),(lh++fi)[i]? =J v->∃c,(gz.toArray++LR.toArray++Builtin.zeroCells zv.cells (k-need))[i]? =J c/\V m v c:=by
 have hv:=h1.append h2;have hkk:need*es+(k-need)*es=k*es:=by rw[<-oz];congr 1;omega
 refine⟨?_,?_,λi v hi=>?_⟩
 ·have:=hv.1;simp only[Array.size_append,List.size_toArray,size_zeroCells,hz];simp only[bT]at this hl;omega
 ·rw[hl];exact gO _ hk
 ·obtain⟨y,hy,hV⟩:=hv.get hi;refine⟨y,?_,hV⟩;rw[<-VV,a5r]
  have hlt:i<(gz++LR).length:=by
   rcases dQ i (gz++LR).length with h|h
   ·exact h
   ·rw[BX h]at hy;cases hy
  rw[fM (by simpa using hlt)];simpa using hy
def zzL{t ty e:TypeId}{i:TypeInfo}{z:Value}(ht:P.underlying t=J (.slice e))(hi:P.info? e=J i)(hz:i.zero=J z)
{s0:Option Addr}{cj eM n cp:Nat}{lh:List Value}{ad:Addr}(hlo:lh.length=cj*i.size)(holds:∀b,s0=J b->∀(j:Nat) (v:Value),lh[j]? =J v->w.cell? (b.add j)=J v)(mc:s0=ae->cj=0/\eM=0)
(hl:fi.length=n*i.size)(MA:∀(j:Nat) (v:Value),fi[j]? =J v->w.cell? (ad.add j)=J v)(h0:0<n)
(hg:eM<cj+n)(EQ:cj+n<=4611686018427387904)(hb:(cj+n)*i.bytes<=140737488355328):
 (Builtin.append_ #[t,t] ty #[.slice s0 cj eM,.slice (J ad) n cp]).run P w=
   .ok (.slice (J ⟨w.heap.size,0,ae⟩) (cj+n) (grownCap w (cj+n) eM e)) (w.drew.alloc (.cells (lh.toArray++fi.toArray++Builtin.zeroCells z.cells (grownCap w (cj+n) eM e-(cj+n))) e)):=by
 cases s0 with
 |none=>
  obtain⟨rfl,rfl⟩:=mc rfl;have ho:lh=[]:=m9 (by simpa using hlo);subst ho;simp only[gE]at hb EQ⊢;have hr:=run_append_nil (P:=P) w t ty e i z ht hi hz ad n cp fi hl MA h0 (by omega) (by omega);rw[hr];simp
 |some b=>exact run_append_grow (P:=P) w t ty e i z ht hi hz b cj eM lh hlo (holds b rfl) ad n cp fi hl MA hg (by omega) (growslice_fits hg hb)
def zs3{o:Oper}{args:Array Operand}{il:Array TypeId}{Q:Exit->Act->World->Prop}(ho:o.op=.call ⟨.builtin .append,args,il⟩)
(h:match args.toList,il.toList with
 |[s,x],[t,t']=>if t=t' then match bg fr H s with
  |some (sv,ak,H')=>match iD P t ak H' x with
   |some (new,n)=>match s9 P t sv new n H' with
    |some (v,ph)=>bC c.nt K o.dst (.v v) ak ph
    |none=>False
   |none=>False
  |none=>False
  else False
 |_,_=>False)(r:aX c m fr H a w)
(hn:∀m' ak H' a' w',K ak H'->aX c m' ak H' a' w'->next a' w'):o.wp P a w next Q:=by
 split at h
 ·rename_i s x t t' hargs htys;split at h
  ·rename_i yo;subst yo;split at h
   ·rename_i sv ak H' hm;split at h
    ·rename_i fi n je;split at h
     ·rename_i v ph db;obtain⟨m',da,r',j6⟩:=SQ r hm;unfold s9 at db;split at db
      ·cases db
      ·rename_i e he;split at db
       ·cases db
       ·rename_i g es cG z ht;obtain⟨pG,ad,cp,hx,D6⟩:=HA r' he ht je;obtain⟨i,zv,hi,hz,jC,eI,nJ,_,hs⟩:=jN (w:=w) ht;split at db
        ·cases db
        ·rename_i kJ;have c1:es≠0:=λe=>kJ (.inl e)
         have c2:z.length=es:=by
          rcases Nat.decEq z.length es with h|h
          ·exact absurd (.inr (.inl h)) kJ
          ·exact h
         have c3:fi.all l8=Z:=by
          cases hh:fi.all l8 with
          |true=>rfl
          |false=>exact absurd (.inr (.inr hh)) kJ
         have TZ:zv.cells.size=es:=by rw[<-c2,<-jC];simp
         have hu:=qu he
         have Ko:∀(y:Value) (w':World),(Builtin.append_ #[t,t] o.type #[a.eval s,a.eval x]).run P w=.ok y w'->(execOp a.eval o).run P w=.ok (.value y) w':=by
          intro y w' hr;have ea:args= #[s,x]:=by apply te;simpa using hargs
          have et:il= #[t,t]:=by apply te;simpa using htys
          simp only[execOp,ho,resolve,ea,et,Sem.run_bind,Sem.run_pure,Result.andThen_ok,invoke,builtin,VY,jT,qI,hr]
         have fresh:∀(s0:Option Addr) (cj eM:Nat) (lh gz:List Value) (dN:FR) (H2:AH),aX c m' dN H2 a w->a.eval s=.slice s0 cj eM->Vl m' lh gz->lh.length=cj*es->
          (∀b,s0=J b->∀(j:Nat) (v:Value),gz[j]? =J v->w.cell? (b.add j)=J v)->(s0=ae->cj=0/\eM=0)->0<n->eM<cj+n->cj+n<=4611686018427387904->(cj+n)*cG<=140737488355328->
          bC c.nt K o.dst (.v (.slice (J ⟨H2.n,0,J es⟩) (cj+n) (cj+n))) dN (H2.push ⟨Z,lh++fi⟩)->o.wp P a w next Q:=by
          intro s0 cj eM lh gz dN H2 r2 dY Ft hlo holds mc h0 hg EQ hb hK;obtain⟨b,o',ys,rfl,q1,q2⟩:=D6 h0;have Ed:ys.length=n*i.size:=by rw[<-q1.1,pG,eI]
          have hol:gz.length=cj*i.size:=by rw[<-Ft.1,hlo,eI]
          have hr:=zzL (P:=P) (w:=w) (ty:=o.type) hu hi hz (s0:=s0) (cp:=cp) hol holds mc Ed q2 h0 hg EQ (by rw[nJ];exact hb);have qS:=grownCap_ge w (cj+n) eM e;obtain⟨g1,g2,g3⟩:=Rf (es:=es) (k:=grownCap w (cj+n) eM e) (need:=cj+n) Ft q1 (by rw[bT,hlo,pG,oz]) TZ qS;unfold Oper.wp;rw[Ko _ _ (by rw[dY,hx];exact hr)];refine od hK (r2.drew.fresh (size:=grownCap w (cj+n) eM e*es) e g1 g2 g3) ?_ hn;exact O6 r2.h.n (cB _) _ (cB _) qS
         split at db
         ·
          generalize dY:a.eval s=y at j6;cases j6 with
          |mK OS=>
           split at db
           ·cases db;rename_i tc;subst tc;unfold Oper.wp;rw[Ko _ _ (by rw[dY,hx];exact Yk t o.type e i hu hi _ _ _ _ _ (cB _))];exact od h r' (.mK OS) hn
           ·rename_i tc;split at db
            ·rename_i hb;cases db;refine fresh OS 0 0 [] [] ak H' r' dY (.nil _) (by simp) (λb _ j v hj=>by simp at hj) (λ_=>⟨rfl,rfl⟩) (by omega) (by omega) (by omega) (by simpa using hb.1) ?_;simpa using h
            ·cases db
         ·rename_i id off bA sl sc;generalize dY:a.eval s=y at j6;have XF:=j6;cases j6 with
          |slice b9 k1 k2 k3 k4=>
           rename_i o' cap;split at db
           ·cases db;rename_i tc;subst tc;unfold Oper.wp;rw[Ko _ _ (by rw[dY,hx];exact Yk t o.type e i hu hi _ _ _ _ _ (by omega))];exact od h r' XF hn
           ·rename_i tc;split at db
            ·cases db
            ·rename_i k hk;split at db
             ·rename_i hc;obtain⟨bc,hes,hfit,hb,xb⟩:=hc;subst hes;have Fc:0<n:=by omega
              split at db
              ·
               rename_i nV;split at db
               ·rename_i cs dv;cases db;obtain⟨b,ob,ys,rfl,q1,q2⟩:=D6 Fc
                have hne:fi≠[]:=λe=>by
                 rw[e]at pG;have:=VZ Fc (Qf c1);simp at pG;omega
                obtain⟨bI,e',g1,g2,g3⟩:=r'.K8 hk bc dv q1 hne;have ho':=k3 (by omega);subst ho'
                have hr:=Z2 (P:=P) (w:=w) t o.type e i hu hi (m'.f id).bu ((m'.f id).base+off) sl cap bI e' g1 ⟨b,ob,ae⟩ n cp ys (by rw[<-q1.1,pG,eI]) q2 (EC q1 c3) (by omega)
                 (by rw[eI];rw[jc (m'.f id).base];exact g2)
                unfold Oper.wp;rw[Ko _ _ (by rw[dY,hx];exact hr),Oper.upon_value];rw[eI,jc (m'.f id).base];exact od h g3 (.slice b9 nV k2 k3 k4) hn
               ·cases db
              ·rename_i nV;split at db
               ·rename_i S9;subst S9;cases db;have Ft:Vl m' (k.cells.take (sl*es)) (k.cells.take (sl*es))\/True:=.inr trivial;obtain⟨bI,e',fz,w1,w2,w3,w5,w6⟩:=r'.h.cells id k hk;rw[w5 bc]at w1;have r1:=r'.kill id;have Rq:(H'.set id ae).n=H'.n:=rfl;by_cases hO:sl+n<=cap
                ·
                 obtain⟨b,ob,ys,rfl,q1,q2⟩:=D6 Fc;have ho':=k3 (by omega);simp only[rQ]at ho';subst ho';have Ed:ys.length=n*es:=by rw[<-q1.1,pG]
                 have Po:sl*es+n*es<=cap*es:=by rw[<-oz];exact gO _ hO
                 have hr:=Z2 (P:=P) (w:=w) t o.type e i hu hi (m'.f id).bu (m'.f id).base sl cap bI e' w1 ⟨b,ob,ae⟩ n cp ys (by rw[Ed,eI]) q2 (EC q1 c3) hO
                  (by rw[eI];omega)
                 have At:∀i2 Df,(H'.set id ae).b i2=J Df->(m'.f i2).bu≠(m'.f id).bu:=by
                  intro i2 Df fP;simp only[AH.set]at fP;split at fP
                  ·cases fP
                  ·rename_i SC;exact λe2=>r'.h.apart id i2 k Df hk fP (λe=>SC e.symm) bc e2.symm
                 have dk:∀t2,cP ak a.tmps t2≠J (m'.f id).bu:=λt2 xj=>r'.apart t2 _ id k xj hk rfl
                 have r2:=r1.Ur (B:=(m'.f id).bu) (bI.toList.take ((m'.f id).base+sl*es)++ys++bI.toList.drop ((m'.f id).base+sl*es+ys.length)).toArray At dk (r'.jG id k hk bc);have gX:=xI (xs:=bI)
                 have r3:=r2.push (l:=⟨(m'.f id).bu,(m'.f id).base,(m'.f id).size⟩) (cells:=k.cells.take (sl*es)++fi) (setRow_heap w _ bI _ e' (0,0) w1) (by simp;omega) (by simp;omega)
                  (λj v hj=>by
                    by_cases ao:j<sl*es
                    ·rw[fM (by simp;omega),LX ao]at hj;obtain⟨y,hy,hV⟩:=w6 j v hj;refine⟨y,?_,hV⟩;rw[HH,ie,fM (by simp;omega),LX (by simp;omega)];simpa using hy
                    ·rw[gj (by simp;omega)]at hj;obtain⟨y,hy,hV⟩:=q1.get hj;refine⟨y,?_,hV⟩
                     have QF:j-(k.cells.take (sl*es)).length<ys.length:=by
                      rcases dQ (j-(k.cells.take (sl*es)).length) ys.length with hh|hh
                      ·exact hh
                      ·rw[BX hh]at hy;cases hy
                     simp only[nO]at QF;rw[HH,ie,gj (by simp;omega),fM (by simp;omega),<-hy];congr 1;simp
                     omega) At dk (r'.jG id k hk bc) (r'.mE id k hk)
                 unfold Oper.wp;rw[Ko _ _ (by rw[dY,hx];exact hr),Oper.upon_value,eI];refine od h r3 ?_ hn;have qh:=m'.BB ⟨(m'.f id).bu,(m'.f id).base,(m'.f id).size⟩
                 have:=V.slice (m:=m'.push ⟨(m'.f id).bu,(m'.f id).base,(m'.f id).size⟩) (id:=m'.n) (off:=0) (es:=es) (n:=sl+n) (c:=sl+n) (o:=(m'.f id).base) (cap:=cap) (by simp[Mu.push])
                  (cB _) hO (λ_=>by rw[qh];simp) (by rw[qh];simpa using k4)
                 rw[qh,r'.h.n]at this;exact this
                ·obtain⟨gz,q3,q4⟩:=((r'.h.row hk).take (sl*es)).list;refine fresh (J ⟨(m'.f id).bu,o',ae⟩) sl cap (k.cells.take (sl*es)) gz ak (H'.set id ae) r1 dY q3 (by simp;omega) ?_ (λe=>by cases e) Fc (by omega) (by omega) hb h;intro b LO j v hj;cases LO;by_cases rC:0<cap
                 ·have ho':=k3 rC;simp only[rQ]at ho';subst ho';exact q4 j v hj
                 ·have fk:sl=0:=by omega
                  subst fk;have:gz=[]:=m9 (by rw[<-q3.1];simp);rw[this]at hj;simp at hj
               ·cases db
             ·cases db
         ·cases db
     ·cases h
    ·cases h
   ·cases h
  ·cases h
 ·cases h
def zuI{o:Oper}{Q:Exit->Act->World->Prop}{t e:TypeId}{s:Operand}{sv v:Value}{ys:List Value}{n:Nat}{U6:AH}{zv:Value}{es cG:Nat}{g:Bool}{z:List Value}
(he:cW P t=J e)(ht:cF P e=J (g,es,cG,z))(jC:zv.cells.toList=z)(Fc:0<n)(pG:fi.length=n*es)(q1:Vl m fi ys)
(j6:V m sv (a.eval s))(db:s9 P t sv fi n H=J (v,U6))(hK:bC c.nt K o.dst (.v v) fr U6)(r':aX c m fr H a w)
(hG:∀(s0:Option Addr) (cj eM:Nat) (gz:List Value),a.eval s=.slice s0 cj eM->gz.length=cj*es->(∀b,s0=J b->∀(j:Nat) (v:Value),gz[j]? =J v->w.cell? (b.add j)=J v)->(s0=ae->cj=0/\eM=0)->eM<cj+n->cj+n<=4611686018427387904->(cj+n)*cG<=140737488355328->
   (execOp a.eval o).run P w=.ok (.value (.slice (J ⟨w.heap.size,0,ae⟩) (cj+n) (grownCap w (cj+n) eM e))) (w.drew.alloc (.cells (gz.toArray++ys.toArray++Builtin.zeroCells zv.cells (grownCap w (cj+n) eM e-(cj+n))) e)))
(hR:∀(bu off sl cap:Nat) (bI:Array Value) (e':TypeId),a.eval s=.slice (J ⟨bu,off,ae⟩) sl cap->w.heap[bu]? =J (.cells bI e' (0,0))->sl+n<=cap->off+sl*es+ys.length<=bI.size->ys.all Value.oneCell'=Z->
   (execOp a.eval o).run P w=.ok (.value (.slice (J ⟨bu,off,ae⟩) (sl+n) cap)) (w.setRow bu (bI.toList.take (off+sl*es)++ys++bI.toList.drop (off+sl*es+ys.length)).toArray))
(hn:∀m' ak H' a' w',K ak H'->aX c m' ak H' a' w'->next a' w'):o.wp P a w next Q:=by
 unfold s9 at db;simp only[he,ht]at db;split at db
 ·cases db
 ·rename_i kJ;have c1:es≠0:=λe=>kJ (.inl e)
  have c2:z.length=es:=by
   rcases Nat.decEq z.length es with h|h
   ·exact absurd (.inr (.inl h)) kJ
   ·exact h
  have c3:fi.all l8=Z:=by
   cases hh:fi.all l8 with
   |true=>rfl
   |false=>exact absurd (.inr (.inr hh)) kJ
  have TZ:zv.cells.size=es:=by rw[<-c2,<-jC];simp
  have yx:ys.all Value.oneCell'=Z:=bm.2 (EC q1 c3);have Ed:ys.length=n*es:=by rw[<-q1.1,pG]
  have fresh:∀(s0:Option Addr) (cj eM:Nat) (lh gz:List Value) (dN:FR) (H2:AH),aX c m dN H2 a w->a.eval s=.slice s0 cj eM->Vl m lh gz->lh.length=cj*es->
   (∀b,s0=J b->∀(j:Nat) (v:Value),gz[j]? =J v->w.cell? (b.add j)=J v)->(s0=ae->cj=0/\eM=0)->eM<cj+n->cj+n<=4611686018427387904->(cj+n)*cG<=140737488355328->
   bC c.nt K o.dst (.v (.slice (J ⟨H2.n,0,J es⟩) (cj+n) (cj+n))) dN (H2.push ⟨Z,lh++fi⟩)->o.wp P a w next Q:=by
   intro s0 cj eM lh gz dN H2 r2 dY Ft hlo holds mc hg EQ hb hK;have hol:gz.length=cj*es:=by rw[<-Ft.1,hlo]
   have hr:=hG s0 cj eM gz dY hol holds mc hg EQ hb;have qS:=grownCap_ge w (cj+n) eM e;obtain⟨g1,g2,g3⟩:=Rf (es:=es) (k:=grownCap w (cj+n) eM e) (need:=cj+n) Ft q1 (by rw[bT,hlo,pG,oz]) TZ qS;unfold Oper.wp;rw[hr];refine od hK (r2.drew.fresh (size:=grownCap w (cj+n) eM e*es) e g1 g2 g3) ?_ hn;exact O6 r2.h.n (cB _) _ (cB _) qS
  split at db
  ·
   generalize dY:a.eval s=y at j6;cases j6 with
   |mK OS=>
    split at db
    ·omega
    ·split at db
     ·rename_i hb;cases db;refine fresh OS 0 0 [] [] fr H r' dY (.nil _) (by simp) (λb _ j v hj=>by simp at hj) (λ_=>⟨rfl,rfl⟩) (by omega) (by omega) (by simpa using hb.1) ?_;simpa using hK
     ·cases db
  ·rename_i id off bA sl sc;generalize dY:a.eval s=y at j6;have XF:=j6;cases j6 with
   |slice b9 k1 k2 k3 k4=>
    rename_i o' cap;split at db
    ·omega
    ·split at db
     ·cases db
     ·rename_i k hk;split at db
      ·rename_i hc;obtain⟨bc,hes,hfit,hb,xb⟩:=hc;subst hes;split at db
       ·
        rename_i nV;split at db
        ·rename_i cs dv;cases db
         have hne:fi≠[]:=λe=>by
          rw[e]at pG;have:=VZ Fc (Qf c1);simp at pG;omega
         obtain⟨bI,e',g1,g2,g3⟩:=r'.K8 hk bc dv q1 hne;have ho':=k3 (by omega);subst ho';have hr:=hR (m.f id).bu ((m.f id).base+off) sl cap bI e' dY g1 (by omega) (by rw[jc (m.f id).base];exact g2) yx;unfold Oper.wp;rw[hr,Oper.upon_value];rw[jc (m.f id).base];exact od hK g3 (.slice b9 nV k2 k3 k4) hn
        ·cases db
       ·rename_i nV;split at db
        ·rename_i S9;subst S9;cases db;obtain⟨bI,e',fz,w1,w2,w3,w5,w6⟩:=r'.h.cells id k hk;rw[w5 bc]at w1;have r1:=r'.kill id;have Rq:(H.set id ae).n=H.n:=rfl;by_cases hO:sl+n<=cap
         ·
          have ho':=k3 (by omega);simp only[rQ]at ho';subst ho';have Po:sl*es+n*es<=cap*es:=by rw[<-oz];exact gO _ hO
          have hr:=hR (m.f id).bu (m.f id).base sl cap bI e' dY w1 hO (by omega) yx
          have At:∀i2 Df,(H.set id ae).b i2=J Df->(m.f i2).bu≠(m.f id).bu:=by
           intro i2 Df fP;simp only[AH.set]at fP;split at fP
           ·cases fP
           ·rename_i SC;exact λe2=>r'.h.apart id i2 k Df hk fP (λe=>SC e.symm) bc e2.symm
          have dk:∀t2,cP fr a.tmps t2≠J (m.f id).bu:=λt2 xj=>r'.apart t2 _ id k xj hk rfl
          have r2:=r1.Ur (B:=(m.f id).bu) (bI.toList.take ((m.f id).base+sl*es)++ys++bI.toList.drop ((m.f id).base+sl*es+ys.length)).toArray At dk (r'.jG id k hk bc);have gX:=xI (xs:=bI)
          have r3:=r2.push (l:=⟨(m.f id).bu,(m.f id).base,(m.f id).size⟩) (cells:=k.cells.take (sl*es)++fi) (setRow_heap w _ bI _ e' (0,0) w1) (by simp;omega) (by simp;omega)
           (λj v hj=>by
             by_cases ao:j<sl*es
             ·rw[fM (by simp;omega),LX ao]at hj;obtain⟨y,hy,hV⟩:=w6 j v hj;refine⟨y,?_,hV⟩;rw[HH,ie,fM (by simp;omega),LX (by simp;omega)];simpa using hy
             ·rw[gj (by simp;omega)]at hj;obtain⟨y,hy,hV⟩:=q1.get hj;refine⟨y,?_,hV⟩
              have QF:j-(k.cells.take (sl*es)).length<ys.length:=by
               rcases dQ (j-(k.cells.take (sl*es)).length) ys.length with hh|hh
               ·exact hh
               ·rw[BX hh]at hy;cases hy
              simp only[nO]at QF;rw[HH,ie,gj (by simp;omega),fM (by simp;omega),<-hy];congr 1;simp
              omega) At dk (r'.jG id k hk bc) (r'.mE id k hk)
          unfold Oper.wp;rw[hr,Oper.upon_value];refine od hK r3 ?_ hn;have qh:=m.BB ⟨(m.f id).bu,(m.f id).base,(m.f id).size⟩
          have:=V.slice (m:=m.push ⟨(m.f id).bu,(m.f id).base,(m.f id).size⟩) (id:=m.n) (off:=0) (es:=es) (n:=sl+n) (c:=sl+n) (o:=(m.f id).base) (cap:=cap) (by simp[Mu.push])
           (cB _) hO (λ_=>by rw[qh];simp) (by rw[qh];simpa using k4)
          rw[qh,r'.h.n]at this;exact this
         ·obtain⟨gz,q3,q4⟩:=((r'.h.row hk).take (sl*es)).list;refine fresh (J ⟨(m.f id).bu,o',ae⟩) sl cap (k.cells.take (sl*es)) gz fr (H.set id ae) r1 dY q3 (by simp;omega) ?_ (λe=>by cases e) (by omega) (by omega) hb hK;intro b LO j v hj;cases LO;by_cases rC:0<cap
          ·have ho':=k3 rC;simp only[rQ]at ho';subst ho';exact q4 j v hj
          ·have fk:sl=0:=by omega
           subst fk;have:gz=[]:=m9 (by rw[<-q3.1];simp);rw[this]at hj;simp at hj
        ·cases db
      ·cases db
  ·cases db
end
end Go.Am
