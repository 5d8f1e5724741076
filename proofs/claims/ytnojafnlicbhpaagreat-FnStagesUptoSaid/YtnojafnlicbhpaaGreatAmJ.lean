import Derived.Test.YtnojafnlicbhpaaGreatAmI
namespace Go.Am
set_option linter.defProp false
open Option renaming none→ae,some→J
open Bool renaming true→Z
def bP:=@List.length_append
def jD:=@List.map_cons
def nu:=@List.length_take
def p8:=@List.map_nil
def Ov:=@Nat.pos_of_ne_zero
def Ue:=@List.map_toArray
def Uf:=@Nat.mul_pos
section
variable {c:qL}{m:Mu}{fr:FR}{H:AH}{a:Act}{w:World}{P:Program}{K:FR->AH->Prop}{next:Act->World->Prop}
variable{eW:List Value}
def Te{kC ga HI:List Value}{zv:Value}{es k need:Nat}(h1:Vl m kC ga)(h2:Vl m eW HI)(hl:(kC++eW).length=need*es)(hz:zv.cells.size=es)(hk:need<=k):
 k*es<=(ga.toArray++HI.toArray++Builtin.zeroCells zv.cells (k-need)).size/\(kC++eW).length<=k*es/\
  ∀(i:Nat) (v:Value),(kC++eW)[i]? =J v->∃c,(ga.toArray++HI.toArray++Builtin.zeroCells zv.cells (k-need))[i]? =J c/\V m v c:=by
 have hv:=h1.append h2;have hkk:need*es+(k-need)*es=k*es:=by rw[<-nS];congr 1;omega
 refine⟨?_,?_,λi v hi=>?_⟩
 ·have:=hv.1;simp only[Array.size_append,List.size_toArray,size_zeroCells,hz];simp only[bP]at this hl;omega
 ·rw[hl];exact gA _ hk
 ·obtain⟨y,hy,hV⟩:=hv.get hi;refine⟨y,?_,hV⟩;rw[<-Ua,Aca]
  have hlt:i<(ga++HI).length:=by
   rcases dK i (ga++HI).length with h|h
   ·exact h
   ·rw[AY h]at hy;cases hy
  rw[fw (by simpa using hlt)];simpa using hy
def zy3{t ty e:TypeId}{i:TypeInfo}{z:Value}(ht:P.underlying t=J (.slice e))(hi:P.info? e=J i)(hz:i.zero=J z)
{s0:Option Addr}{cg ey n cp:Nat}{kC:List Value}{ad:Addr}(hlo:kC.length=cg*i.size)(holds:∀b,s0=J b->∀(j:Nat) (v:Value),kC[j]? =J v->w.cell? (b.add j)=J v)(lw:s0=ae->cg=0/\ey=0)
(hl:eW.length=n*i.size)(K1:∀(j:Nat) (v:Value),eW[j]? =J v->w.cell? (ad.add j)=J v)(h0:0<n)
(hg:ey<cg+n)(Gc:cg+n<=4611686018427387904)(hb:(cg+n)*i.bytes<=140737488355328):
 (Builtin.append_ #[t,t] ty #[.slice s0 cg ey,.slice (J ad) n cp]).run P w=
   .ok (.slice (J ⟨w.heap.size,0,ae⟩) (cg+n) (grownCap w (cg+n) ey e)) (w.drew.alloc (.cells (kC.toArray++eW.toArray++Builtin.zeroCells z.cells (grownCap w (cg+n) ey e-(cg+n))) e)):=by
 cases s0 with
 |none=>
  obtain⟨rfl,rfl⟩:=lw rfl;have ho:kC=[]:=mK (by simpa using hlo);subst ho;simp only[gk]at hb Gc⊢;have hr:=run_append_nil (P:=P) w t ty e i z ht hi hz ad n cp eW hl K1 h0 (by omega) (by omega);rw[hr];simp
 |some b=>exact run_append_grow (P:=P) w t ty e i z ht hi hz b cg ey kC hlo (holds b rfl) ad n cp eW hl K1 hg (by omega) (growslice_fits hg hb)
def ztN{o:Oper}{args:Array Operand}{hO:Array TypeId}{Q:Exit->Act->World->Prop}(ho:o.op=.call ⟨.builtin .append,args,hO⟩)
(h:match args.toList,hO.toList with
 |[s,x],[t,t']=>if t=t' then match bh fr H s with
  |some (sv,ai,H')=>match ic P t ai H' x with
   |some (new,n)=>match sf P t sv new n H' with
    |some (v,n0)=>bB c.nt K o.dst (.v v) ai n0
    |none=>False
   |none=>False
  |none=>False
  else False
 |_,_=>False)(r:aX c m fr H a w)
(hn:∀m' ai H' a' w',K ai H'->aX c m' ai H' a' w'->next a' w'):o.wp P a w next Q:=by
 split at h
 ·rename_i s x t t' hargs htys;split at h
  ·rename_i wj;subst wj;split at h
   ·rename_i sv ai H' hm;split at h
    ·rename_i eW n jc;split at h
     ·rename_i v n0 cV;obtain⟨m',cU,r',jR⟩:=Pv r hm;unfold sf at cV;split at cV
      ·cases cV
      ·rename_i e he;split at cV
       ·cases cV
       ·rename_i g es cz z ht;obtain⟨oZ,ad,cp,hx,CT⟩:=ER r' he ht jc;obtain⟨i,zv,hi,hz,jy,eB,mW,_,hs⟩:=jo (w:=w) ht;split at cV
        ·cases cV
        ·rename_i kd;have c1:es≠0:=λe=>kd (.inl e)
         have c2:z.length=es:=by
          rcases Nat.decEq z.length es with h|h
          ·exact absurd (.inr (.inl h)) kd
          ·exact h
         have c3:eW.all lU=Z:=by
          cases hh:eW.all lU with
          |true=>rfl
          |false=>exact absurd (.inr (.inr hh)) kd
         have Rk:zv.cells.size=es:=by rw[<-c2,<-jy];simp
         have hu:=px he
         have Iy:∀(y:Value) (w':World),(Builtin.append_ #[t,t] o.type #[a.eval s,a.eval x]).run P w=.ok y w'->(execOp a.eval o).run P w=.ok (.value y) w':=by
          intro y w' hr;have ea:args= #[s,x]:=by apply sD;simpa using hargs
          have et:hO= #[t,t]:=by apply sD;simpa using htys
          simp only[execOp,ho,resolve,ea,et,Sem.run_bind,Sem.run_pure,Result.andThen_ok,invoke,builtin,Ue,jD,p8,hr]
         have fresh:∀(s0:Option Addr) (cg ey:Nat) (kC ga:List Value) (dH:FR) (H2:AH),aX c m' dH H2 a w->a.eval s=.slice s0 cg ey->Vl m' kC ga->kC.length=cg*es->
          (∀b,s0=J b->∀(j:Nat) (v:Value),ga[j]? =J v->w.cell? (b.add j)=J v)->(s0=ae->cg=0/\ey=0)->0<n->ey<cg+n->cg+n<=4611686018427387904->(cg+n)*cz<=140737488355328->
          bB c.nt K o.dst (.v (.slice (J ⟨H2.n,0,J es⟩) (cg+n) (cg+n))) dH (H2.push ⟨Z,kC++eW⟩)->o.wp P a w next Q:=by
          intro s0 cg ey kC ga dH H2 r2 dW E8 hlo holds lw h0 hg Gc hb hK;obtain⟨b,o',ys,rfl,q1,q2⟩:=CT h0;have C3:ys.length=n*i.size:=by rw[<-q1.1,oZ,eB]
          have hol:ga.length=cg*i.size:=by rw[<-E8.1,hlo,eB]
          have hr:=zy3 (P:=P) (w:=w) (ty:=o.type) hu hi hz (s0:=s0) (cp:=cp) hol holds lw C3 q2 h0 hg Gc (by rw[mW];exact hb);have qn:=grownCap_ge w (cg+n) ey e;obtain⟨g1,g2,g3⟩:=Te (es:=es) (k:=grownCap w (cg+n) ey e) (need:=cg+n) E8 q1 (by rw[bP,hlo,oZ,nS]) Rk qn;unfold Oper.wp;rw[Iy _ _ (by rw[dW,hx];exact hr)];refine nH hK (r2.drew.fresh (size:=grownCap w (cg+n) ey e*es) e g1 g2 g3) ?_ hn;exact Oa r2.h.n (cy _) _ (cy _) qn
         split at cV
         ·
          generalize dW:a.eval s=y at jR;cases jR with
          |mu KT=>
           split at cV
           ·cases cV;rename_i r9;subst r9;unfold Oper.wp;rw[Iy _ _ (by rw[dW,hx];exact Vg t o.type e i hu hi _ _ _ _ _ (cy _))];exact nH h r' (.mu KT) hn
           ·rename_i r9;split at cV
            ·rename_i hb;cases cV;refine fresh KT 0 0 [] [] ai H' r' dW (.nil _) (by simp) (λb _ j v hj=>by simp at hj) (λ_=>⟨rfl,rfl⟩) (by omega) (by omega) (by omega) (by simpa using hb.1) ?_;simpa using h
            ·cases cV
         ·rename_i id off bw sl sc;generalize dW:a.eval s=y at jR;have Ze:=jR;cases jR with
          |slice bY k1 k2 k3 k4=>
           rename_i o' cap;split at cV
           ·cases cV;rename_i r9;subst r9;unfold Oper.wp;rw[Iy _ _ (by rw[dW,hx];exact Vg t o.type e i hu hi _ _ _ _ _ (by omega))];exact nH h r' Ze hn
           ·rename_i r9;split at cV
            ·cases cV
            ·rename_i k hk;split at cV
             ·rename_i hc;obtain⟨bc,hes,hfit,hb,h62⟩:=hc;subst hes;have Ew:0<n:=by omega
              split at cV
              ·
               rename_i nN;split at cV
               ·rename_i cs dq;cases cV;obtain⟨b,ob,ys,rfl,q1,q2⟩:=CT Ew
                have hne:eW≠[]:=λe=>by
                 rw[e]at oZ;have:=Uf Ew (Ov c1);simp at oZ;omega
                obtain⟨bF,e',g1,g2,g3⟩:=r'.Jy hk bc dq q1 hne;have ho':=k3 (by omega);subst ho'
                have hr:=Yw (P:=P) (w:=w) t o.type e i hu hi (m'.f id).bq ((m'.f id).base+off) sl cap bF e' g1 ⟨b,ob,ae⟩ n cp ys (by rw[<-q1.1,oZ,eB]) q2 (EJ q1 c3) (by omega)
                 (by rw[eB];rw[iN (m'.f id).base];exact g2)
                unfold Oper.wp;rw[Iy _ _ (by rw[dW,hx];exact hr),Oper.upon_value];rw[eB,iN (m'.f id).base];exact nH h g3 (.slice bY nN k2 k3 k4) hn
               ·cases cV
              ·rename_i nN;split at cV
               ·rename_i So;subst So;cases cV;have E8:Vl m' (k.cells.take (sl*es)) (k.cells.take (sl*es))\/True:=.inr trivial;obtain⟨bF,e',fz,w1,w2,w3,w5,w6⟩:=r'.h.cells id k hk;rw[w5 bc]at w1;have r1:=r'.kill id;have Q1:(H'.set id ae).n=H'.n:=rfl;by_cases gJ:sl+n<=cap
                ·
                 obtain⟨b,ob,ys,rfl,q1,q2⟩:=CT Ew;have ho':=k3 (by omega);simp only[rb]at ho';subst ho';have C3:ys.length=n*es:=by rw[<-q1.1,oZ]
                 have Ni:sl*es+n*es<=cap*es:=by rw[<-nS];exact gA _ gJ
                 have hr:=Yw (P:=P) (w:=w) t o.type e i hu hi (m'.f id).bq (m'.f id).base sl cap bF e' w1 ⟨b,ob,ae⟩ n cp ys (by rw[C3,eB]) q2 (EJ q1 c3) gJ
                  (by rw[eB];omega)
                 have AR:∀i2 CF,(H'.set id ae).b i2=J CF->(m'.f i2).bq≠(m'.f id).bq:=by
                  intro i2 CF cH;simp only[AH.set]at cH;split at cH
                  ·cases cH
                  ·rename_i TL;exact λe2=>r'.h.apart id i2 k CF hk cH (λe=>TL e.symm) bc e2.symm
                 have cY:∀t2,cK ai a.tmps t2≠J (m'.f id).bq:=λt2 vk=>r'.apart t2 _ id k vk hk rfl
                 have r2:=r1.QO (B:=(m'.f id).bq) (bF.toList.take ((m'.f id).base+sl*es)++ys++bF.toList.drop ((m'.f id).base+sl*es+ys.length)).toArray AR cY (r'.jr id k hk bc);have gP:=wa (xs:=bF)
                 have r3:=r2.push (l:=⟨(m'.f id).bq,(m'.f id).base,(m'.f id).size⟩) (cells:=k.cells.take (sl*es)++eW) (setRow_heap w _ bF _ e' (0,0) w1) (by simp;omega) (by simp;omega)
                  (λj v hj=>by
                    by_cases j6:j<sl*es
                    ·rw[fw (by simp;omega),Kr j6]at hj;obtain⟨y,hy,hV⟩:=w6 j v hj;refine⟨y,?_,hV⟩;rw[Gr,gU,fw (by simp;omega),Kr (by simp;omega)];simpa using hy
                    ·rw[fT (by simp;omega)]at hj;obtain⟨y,hy,hV⟩:=q1.get hj;refine⟨y,?_,hV⟩
                     have Q0:j-(k.cells.take (sl*es)).length<ys.length:=by
                      rcases dK (j-(k.cells.take (sl*es)).length) ys.length with hh|hh
                      ·exact hh
                      ·rw[AY hh]at hy;cases hy
                     simp only[nu]at Q0;rw[Gr,gU,fT (by simp;omega),fw (by simp;omega),<-hy];congr 1;simp
                     omega) AR cY (r'.jr id k hk bc) (r'.mG id k hk)
                 unfold Oper.wp;rw[Iy _ _ (by rw[dW,hx];exact hr),Oper.upon_value,eB];refine nH h r3 ?_ hn;have pV:=m'.zB ⟨(m'.f id).bq,(m'.f id).base,(m'.f id).size⟩
                 have:=V.slice (m:=m'.push ⟨(m'.f id).bq,(m'.f id).base,(m'.f id).size⟩) (id:=m'.n) (off:=0) (es:=es) (n:=sl+n) (c:=sl+n) (o:=(m'.f id).base) (cap:=cap) (by simp[Mu.push])
                  (cy _) gJ (λ_=>by rw[pV];simp) (by rw[pV];simpa using k4)
                 rw[pV,r'.h.n]at this;exact this
                ·obtain⟨ga,q3,q4⟩:=((r'.h.row hk).take (sl*es)).list;refine fresh (J ⟨(m'.f id).bq,o',ae⟩) sl cap (k.cells.take (sl*es)) ga ai (H'.set id ae) r1 dW q3 (by simp;omega) ?_ (λe=>by cases e) Ew (by omega) (by omega) hb h;intro b GZ j v hj;cases GZ;by_cases qr:0<cap
                 ·have ho':=k3 qr;simp only[rb]at ho';subst ho';exact q4 j v hj
                 ·have e8:sl=0:=by omega
                  subst e8;have:ga=[]:=mK (by rw[<-q3.1];simp);rw[this]at hj;simp at hj
               ·cases cV
             ·cases cV
         ·cases cV
     ·cases h
    ·cases h
   ·cases h
  ·cases h
 ·cases h
def zul{o:Oper}{Q:Exit->Act->World->Prop}{t e:TypeId}{s:Operand}{sv v:Value}{ys:List Value}{n:Nat}{Pd:AH}{zv:Value}{es cz:Nat}{g:Bool}{z:List Value}
(he:cS P t=J e)(ht:cA P e=J (g,es,cz,z))(jy:zv.cells.toList=z)(Ew:0<n)(oZ:eW.length=n*es)(q1:Vl m eW ys)
(jR:V m sv (a.eval s))(cV:sf P t sv eW n H=J (v,Pd))(hK:bB c.nt K o.dst (.v v) fr Pd)(r':aX c m fr H a w)
(hG:∀(s0:Option Addr) (cg ey:Nat) (ga:List Value),a.eval s=.slice s0 cg ey->ga.length=cg*es->(∀b,s0=J b->∀(j:Nat) (v:Value),ga[j]? =J v->w.cell? (b.add j)=J v)->(s0=ae->cg=0/\ey=0)->ey<cg+n->cg+n<=4611686018427387904->(cg+n)*cz<=140737488355328->
   (execOp a.eval o).run P w=.ok (.value (.slice (J ⟨w.heap.size,0,ae⟩) (cg+n) (grownCap w (cg+n) ey e))) (w.drew.alloc (.cells (ga.toArray++ys.toArray++Builtin.zeroCells zv.cells (grownCap w (cg+n) ey e-(cg+n))) e)))
(hR:∀(bq off sl cap:Nat) (bF:Array Value) (e':TypeId),a.eval s=.slice (J ⟨bq,off,ae⟩) sl cap->w.heap[bq]? =J (.cells bF e' (0,0))->sl+n<=cap->off+sl*es+ys.length<=bF.size->ys.all Value.oneCell'=Z->
   (execOp a.eval o).run P w=.ok (.value (.slice (J ⟨bq,off,ae⟩) (sl+n) cap)) (w.setRow bq (bF.toList.take (off+sl*es)++ys++bF.toList.drop (off+sl*es+ys.length)).toArray))
(hn:∀m' ai H' a' w',K ai H'->aX c m' ai H' a' w'->next a' w'):o.wp P a w next Q:=by
 unfold sf at cV;simp only[he,ht]at cV;split at cV
 ·cases cV
 ·rename_i kd;have c1:es≠0:=λe=>kd (.inl e)
  have c2:z.length=es:=by
   rcases Nat.decEq z.length es with h|h
   ·exact absurd (.inr (.inl h)) kd
   ·exact h
  have c3:eW.all lU=Z:=by
   cases hh:eW.all lU with
   |true=>rfl
   |false=>exact absurd (.inr (.inr hh)) kd
  have Rk:zv.cells.size=es:=by rw[<-c2,<-jy];simp
  have wU:ys.all Value.oneCell'=Z:=bm.2 (EJ q1 c3);have C3:ys.length=n*es:=by rw[<-q1.1,oZ]
  have fresh:∀(s0:Option Addr) (cg ey:Nat) (kC ga:List Value) (dH:FR) (H2:AH),aX c m dH H2 a w->a.eval s=.slice s0 cg ey->Vl m kC ga->kC.length=cg*es->
   (∀b,s0=J b->∀(j:Nat) (v:Value),ga[j]? =J v->w.cell? (b.add j)=J v)->(s0=ae->cg=0/\ey=0)->ey<cg+n->cg+n<=4611686018427387904->(cg+n)*cz<=140737488355328->
   bB c.nt K o.dst (.v (.slice (J ⟨H2.n,0,J es⟩) (cg+n) (cg+n))) dH (H2.push ⟨Z,kC++eW⟩)->o.wp P a w next Q:=by
   intro s0 cg ey kC ga dH H2 r2 dW E8 hlo holds lw hg Gc hb hK;have hol:ga.length=cg*es:=by rw[<-E8.1,hlo]
   have hr:=hG s0 cg ey ga dW hol holds lw hg Gc hb;have qn:=grownCap_ge w (cg+n) ey e;obtain⟨g1,g2,g3⟩:=Te (es:=es) (k:=grownCap w (cg+n) ey e) (need:=cg+n) E8 q1 (by rw[bP,hlo,oZ,nS]) Rk qn;unfold Oper.wp;rw[hr];refine nH hK (r2.drew.fresh (size:=grownCap w (cg+n) ey e*es) e g1 g2 g3) ?_ hn;exact Oa r2.h.n (cy _) _ (cy _) qn
  split at cV
  ·
   generalize dW:a.eval s=y at jR;cases jR with
   |mu KT=>
    split at cV
    ·omega
    ·split at cV
     ·rename_i hb;cases cV;refine fresh KT 0 0 [] [] fr H r' dW (.nil _) (by simp) (λb _ j v hj=>by simp at hj) (λ_=>⟨rfl,rfl⟩) (by omega) (by omega) (by simpa using hb.1) ?_;simpa using hK
     ·cases cV
  ·rename_i id off bw sl sc;generalize dW:a.eval s=y at jR;have Ze:=jR;cases jR with
   |slice bY k1 k2 k3 k4=>
    rename_i o' cap;split at cV
    ·omega
    ·split at cV
     ·cases cV
     ·rename_i k hk;split at cV
      ·rename_i hc;obtain⟨bc,hes,hfit,hb,h62⟩:=hc;subst hes;split at cV
       ·
        rename_i nN;split at cV
        ·rename_i cs dq;cases cV
         have hne:eW≠[]:=λe=>by
          rw[e]at oZ;have:=Uf Ew (Ov c1);simp at oZ;omega
         obtain⟨bF,e',g1,g2,g3⟩:=r'.Jy hk bc dq q1 hne;have ho':=k3 (by omega);subst ho';have hr:=hR (m.f id).bq ((m.f id).base+off) sl cap bF e' dW g1 (by omega) (by rw[iN (m.f id).base];exact g2) wU;unfold Oper.wp;rw[hr,Oper.upon_value];rw[iN (m.f id).base];exact nH hK g3 (.slice bY nN k2 k3 k4) hn
        ·cases cV
       ·rename_i nN;split at cV
        ·rename_i So;subst So;cases cV;obtain⟨bF,e',fz,w1,w2,w3,w5,w6⟩:=r'.h.cells id k hk;rw[w5 bc]at w1;have r1:=r'.kill id;have Q1:(H.set id ae).n=H.n:=rfl;by_cases gJ:sl+n<=cap
         ·
          have ho':=k3 (by omega);simp only[rb]at ho';subst ho';have Ni:sl*es+n*es<=cap*es:=by rw[<-nS];exact gA _ gJ
          have hr:=hR (m.f id).bq (m.f id).base sl cap bF e' dW w1 gJ (by omega) wU
          have AR:∀i2 CF,(H.set id ae).b i2=J CF->(m.f i2).bq≠(m.f id).bq:=by
           intro i2 CF cH;simp only[AH.set]at cH;split at cH
           ·cases cH
           ·rename_i TL;exact λe2=>r'.h.apart id i2 k CF hk cH (λe=>TL e.symm) bc e2.symm
          have cY:∀t2,cK fr a.tmps t2≠J (m.f id).bq:=λt2 vk=>r'.apart t2 _ id k vk hk rfl
          have r2:=r1.QO (B:=(m.f id).bq) (bF.toList.take ((m.f id).base+sl*es)++ys++bF.toList.drop ((m.f id).base+sl*es+ys.length)).toArray AR cY (r'.jr id k hk bc);have gP:=wa (xs:=bF)
          have r3:=r2.push (l:=⟨(m.f id).bq,(m.f id).base,(m.f id).size⟩) (cells:=k.cells.take (sl*es)++eW) (setRow_heap w _ bF _ e' (0,0) w1) (by simp;omega) (by simp;omega)
           (λj v hj=>by
             by_cases j6:j<sl*es
             ·rw[fw (by simp;omega),Kr j6]at hj;obtain⟨y,hy,hV⟩:=w6 j v hj;refine⟨y,?_,hV⟩;rw[Gr,gU,fw (by simp;omega),Kr (by simp;omega)];simpa using hy
             ·rw[fT (by simp;omega)]at hj;obtain⟨y,hy,hV⟩:=q1.get hj;refine⟨y,?_,hV⟩
              have Q0:j-(k.cells.take (sl*es)).length<ys.length:=by
               rcases dK (j-(k.cells.take (sl*es)).length) ys.length with hh|hh
               ·exact hh
               ·rw[AY hh]at hy;cases hy
              simp only[nu]at Q0;rw[Gr,gU,fT (by simp;omega),fw (by simp;omega),<-hy];congr 1;simp
              omega) AR cY (r'.jr id k hk bc) (r'.mG id k hk)
          unfold Oper.wp;rw[hr,Oper.upon_value];refine nH hK r3 ?_ hn;have pV:=m.zB ⟨(m.f id).bq,(m.f id).base,(m.f id).size⟩
          have:=V.slice (m:=m.push ⟨(m.f id).bq,(m.f id).base,(m.f id).size⟩) (id:=m.n) (off:=0) (es:=es) (n:=sl+n) (c:=sl+n) (o:=(m.f id).base) (cap:=cap) (by simp[Mu.push])
           (cy _) gJ (λ_=>by rw[pV];simp) (by rw[pV];simpa using k4)
          rw[pV,r'.h.n]at this;exact this
         ·obtain⟨ga,q3,q4⟩:=((r'.h.row hk).take (sl*es)).list;refine fresh (J ⟨(m.f id).bq,o',ae⟩) sl cap (k.cells.take (sl*es)) ga fr (H.set id ae) r1 dW q3 (by simp;omega) ?_ (λe=>by cases e) (by omega) (by omega) hb hK;intro b GZ j v hj;cases GZ;by_cases qr:0<cap
          ·have ho':=k3 qr;simp only[rb]at ho';subst ho';exact q4 j v hj
          ·have e8:sl=0:=by omega
           subst e8;have:ga=[]:=mK (by rw[<-q3.1];simp);rw[this]at hj;simp at hj
        ·cases cV
      ·cases cV
  ·cases cV
end
end Go.Am
