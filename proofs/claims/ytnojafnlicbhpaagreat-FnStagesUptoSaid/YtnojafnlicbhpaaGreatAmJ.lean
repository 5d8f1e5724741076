import Derived.Test.YtnojafnlicbhpaaGreatAmI
open Option renaming none→ae,some→J
open Bool renaming true→Z
set_option linter.defProp false
namespace Go.Am
def bP:=@List.length_append
def jD:=@List.map_cons
def nv:=@List.length_take
def p9:=@List.map_nil
def OB:=@Nat.pos_of_ne_zero
def Uh:=@List.map_toArray
def Ui:=@Nat.mul_pos
section
variable {c:q9}{m:Mu}{fr:FR}{H:AH}{a:Act}{w:World}{P:Program}{K:FR->AH->Prop}{next:Act->World->Prop}
variable{e7:List Value}
def RN{kP ga Iq:List Value}{zv:Value}{es k need:Nat}(h1:Vl m kP ga)(h2:Vl m e7 Iq)(hl:(kP++e7).length=need*es)(hz:zv.cells.size=es)(hk:need<=k):
 k*es<=(ga.toArray++Iq.toArray++Builtin.zeroCells zv.cells (k-need)).size/\(kP++e7).length<=k*es/\
  ∀(i:Nat) (v:Value),(kP++e7)[i]? =J v->∃c,(ga.toArray++Iq.toArray++Builtin.zeroCells zv.cells (k-need))[i]? =J c/\V m v c:=by
 have hv:=h1.append h2;have hkk:need*es+(k-need)*es=k*es:=by rw[<-nT];congr 1;omega
 refine⟨?_,?_,λi v hi=>?_⟩
 ·have:=hv.1;simp only[Array.size_append,List.size_toArray,size_zeroCells,hz];simp only[bP]at this hl;omega
 ·rw[hl];exact gA _ hk
 ·obtain⟨y,hy,hV⟩:=hv.get hi;refine⟨y,?_,hV⟩;rw[<-Ue,a2c]
  have hlt:i<(ga++Iq).length:=by
   rcases dK i (ga++Iq).length with h|h
   ·exact h
   ·rw[AZ h]at hy;cases hy
  rw[fw (by simpa using hlt)];simpa using hy
def zzP{t ty e:TypeId}{i:TypeInfo}{z:Value}(ht:P.underlying t=J (.slice e))(hi:P.info? e=J i)(hz:i.zero=J z)
{s0:Option Addr}{cg eA n cp:Nat}{kP:List Value}{ad:Addr}(hlo:kP.length=cg*i.size)(holds:∀b,s0=J b->∀(j:Nat) (v:Value),kP[j]? =J v->w.cell? (b.add j)=J v)(lD:s0=ae->cg=0/\eA=0)
(hl:e7.length=n*i.size)(L0:∀(j:Nat) (v:Value),e7[j]? =J v->w.cell? (ad.add j)=J v)(h0:0<n)
(hg:eA<cg+n)(EG:cg+n<=4611686018427387904)(hb:(cg+n)*i.bytes<=140737488355328):
 (Builtin.append_ #[t,t] ty #[.slice s0 cg eA,.slice (J ad) n cp]).run P w=
   .ok (.slice (J ⟨w.heap.size,0,ae⟩) (cg+n) (grownCap w (cg+n) eA e)) (w.drew.alloc (.cells (kP.toArray++e7.toArray++Builtin.zeroCells z.cells (grownCap w (cg+n) eA e-(cg+n))) e)):=by
 cases s0 with
 |none=>
  obtain⟨rfl,rfl⟩:=lD rfl;have ho:kP=[]:=mL (by simpa using hlo);subst ho;simp only[gk]at hb EG⊢;have hr:=run_append_nil (P:=P) w t ty e i z ht hi hz ad n cp e7 hl L0 h0 (by omega) (by omega);rw[hr];simp
 |some b=>exact run_append_grow (P:=P) w t ty e i z ht hi hz b cg eA kP hlo (holds b rfl) ad n cp e7 hl L0 hg (by omega) (growslice_fits hg hb)
def zs7{o:Oper}{args:Array Operand}{hY:Array TypeId}{Q:Exit->Act->World->Prop}(ho:o.op=.call ⟨.builtin .append,args,hY⟩)
(h:match args.toList,hY.toList with
 |[s,x],[t,t']=>if t=t' then match bh fr H s with
  |some (sv,ai,H')=>match iq P t ai H' x with
   |some (new,n)=>match su P t sv new n H' with
    |some (v,n9)=>bB c.nt K o.dst (.v v) ai n9
    |none=>False
   |none=>False
  |none=>False
  else False
 |_,_=>False)(r:aX c m fr H a w)
(hn:∀m' ai H' a' w',K ai H'->aX c m' ai H' a' w'->next a' w'):o.wp P a w next Q:=by
 split at h
 ·rename_i s x t t' hargs htys;split at h
  ·rename_i xb;subst xb;split at h
   ·rename_i sv ai H' hm;split at h
    ·rename_i e7 n iY;split at h
     ·rename_i v n9 cU;obtain⟨m',cV,r',jH⟩:=Pn r hm;unfold su at cU;split at cU
      ·cases cU
      ·rename_i e he;split at cU
       ·cases cU
       ·rename_i g es cB z ht;obtain⟨ot,ad,cp,hx,CQ⟩:=Ei r' he ht iY;obtain⟨i,zv,hi,hz,jo,ey,nh,_,hs⟩:=ju (w:=w) ht;split at cU
        ·cases cU
        ·rename_i kh;have c1:es≠0:=λe=>kh (.inl e)
         have c2:z.length=es:=by
          rcases Nat.decEq z.length es with h|h
          ·exact absurd (.inr (.inl h)) kh
          ·exact h
         have c3:e7.all lQ=Z:=by
          cases hh:e7.all lQ with
          |true=>rfl
          |false=>exact absurd (.inr (.inr hh)) kh
         have Rb:zv.cells.size=es:=by rw[<-c2,<-jo];simp
         have hu:=pu he
         have Kp:∀(y:Value) (w':World),(Builtin.append_ #[t,t] o.type #[a.eval s,a.eval x]).run P w=.ok y w'->(execOp a.eval o).run P w=.ok (.value y) w':=by
          intro y w' hr;have ea:args= #[s,x]:=by apply sF;simpa using hargs
          have et:hY= #[t,t]:=by apply sF;simpa using htys
          simp only[execOp,ho,resolve,ea,et,Sem.run_bind,Sem.run_pure,Result.andThen_ok,invoke,builtin,Uh,jD,p9,hr]
         have fresh:∀(s0:Option Addr) (cg eA:Nat) (kP ga:List Value) (dI:FR) (H2:AH),aX c m' dI H2 a w->a.eval s=.slice s0 cg eA->Vl m' kP ga->kP.length=cg*es->
          (∀b,s0=J b->∀(j:Nat) (v:Value),ga[j]? =J v->w.cell? (b.add j)=J v)->(s0=ae->cg=0/\eA=0)->0<n->eA<cg+n->cg+n<=4611686018427387904->(cg+n)*cB<=140737488355328->
          bB c.nt K o.dst (.v (.slice (J ⟨H2.n,0,J es⟩) (cg+n) (cg+n))) dI (H2.push ⟨Z,kP++e7⟩)->o.wp P a w next Q:=by
          intro s0 cg eA kP ga dI H2 r2 dW Ed hlo holds lD h0 hg EG hb hK;obtain⟨b,o',ys,rfl,q1,q2⟩:=CQ h0;have BP:ys.length=n*i.size:=by rw[<-q1.1,ot,ey]
          have hol:ga.length=cg*i.size:=by rw[<-Ed.1,hlo,ey]
          have hr:=zzP (P:=P) (w:=w) (ty:=o.type) hu hi hz (s0:=s0) (cp:=cp) hol holds lD BP q2 h0 hg EG (by rw[nh];exact hb);have qG:=grownCap_ge w (cg+n) eA e;obtain⟨g1,g2,g3⟩:=RN (es:=es) (k:=grownCap w (cg+n) eA e) (need:=cg+n) Ed q1 (by rw[bP,hlo,ot,nT]) Rb qG;unfold Oper.wp;rw[Kp _ _ (by rw[dW,hx];exact hr)];refine nC hK (r2.drew.fresh (size:=grownCap w (cg+n) eA e*es) e g1 g2 g3) ?_ hn;exact Lj r2.h.n (cy _) _ (cy _) qG
         split at cU
         ·
          generalize dW:a.eval s=y at jH;cases jH with
          |mf LU=>
           split at cU
           ·cases cU;rename_i sy;subst sy;unfold Oper.wp;rw[Kp _ _ (by rw[dW,hx];exact zlv t o.type e i hu hi _ _ _ _ _ (cy _))];exact nC h r' (.mf LU) hn
           ·rename_i sy;split at cU
            ·rename_i hb;cases cU;refine fresh LU 0 0 [] [] ai H' r' dW (.nil _) (by simp) (λb _ j v hj=>by simp at hj) (λ_=>⟨rfl,rfl⟩) (by omega) (by omega) (by omega) (by simpa using hb.1) ?_;simpa using h
            ·cases cU
         ·rename_i id off bw sl sc;generalize dW:a.eval s=y at jH;have XM:=jH;cases jH with
          |slice bY k1 k2 k3 k4=>
           rename_i o' cap;split at cU
           ·cases cU;rename_i sy;subst sy;unfold Oper.wp;rw[Kp _ _ (by rw[dW,hx];exact zlv t o.type e i hu hi _ _ _ _ _ (by omega))];exact nC h r' XM hn
           ·rename_i sy;split at cU
            ·cases cU
            ·rename_i k hk;split at cU
             ·rename_i hc;obtain⟨bc,hes,hfit,hb,h62⟩:=hc;subst hes;have Gk:0<n:=by omega
              split at cU
              ·
               rename_i nH;split at cU
               ·rename_i cs dn;cases cU;obtain⟨b,ob,ys,rfl,q1,q2⟩:=CQ Gk
                have hne:e7≠[]:=λe=>by
                 rw[e]at ot;have:=Ui Gk (OB c1);simp at ot;omega
                obtain⟨bF,e',g1,g2,g3⟩:=r'.HC hk bc dn q1 hne;have ho':=k3 (by omega);subst ho'
                have hr:=zkT (P:=P) (w:=w) t o.type e i hu hi (m'.f id).bq ((m'.f id).base+off) sl cap bF e' g1 ⟨b,ob,ae⟩ n cp ys (by rw[<-q1.1,ot,ey]) q2 (Gc q1 c3) (by omega)
                 (by rw[ey];rw[iN (m'.f id).base];exact g2)
                unfold Oper.wp;rw[Kp _ _ (by rw[dW,hx];exact hr),Oper.upon_value];rw[ey,iN (m'.f id).base];exact nC h g3 (.slice bY nH k2 k3 k4) hn
               ·cases cU
              ·rename_i nH;split at cU
               ·rename_i T7;subst T7;cases cU;have Ed:Vl m' (k.cells.take (sl*es)) (k.cells.take (sl*es))\/True:=.inr trivial;obtain⟨bF,e',fz,w1,w2,w3,w5,w6⟩:=r'.h.cells id k hk;rw[w5 bc]at w1;have r1:=r'.kill id;have Tn:(H'.set id ae).n=H'.n:=rfl;by_cases gR:sl+n<=cap
                ·
                 obtain⟨b,ob,ys,rfl,q1,q2⟩:=CQ Gk;have ho':=k3 (by omega);simp only[rc]at ho';subst ho';have BP:ys.length=n*es:=by rw[<-q1.1,ot]
                 have Me:sl*es+n*es<=cap*es:=by rw[<-nT];exact gA _ gR
                 have hr:=zkT (P:=P) (w:=w) t o.type e i hu hi (m'.f id).bq (m'.f id).base sl cap bF e' w1 ⟨b,ob,ae⟩ n cp ys (by rw[BP,ey]) q2 (Gc q1 c3) gR
                  (by rw[ey];omega)
                 have zD:∀i2 BK,(H'.set id ae).b i2=J BK->(m'.f i2).bq≠(m'.f id).bq:=by
                  intro i2 BK cF;simp only[AH.set]at cF;split at cF
                  ·cases cF
                  ·rename_i P9;exact λe2=>r'.h.apart id i2 k BK hk cF (λe=>P9 e.symm) bc e2.symm
                 have df:∀t2,cK ai a.tmps t2≠J (m'.f id).bq:=λt2 uG=>r'.apart t2 _ id k uG hk rfl
                 have r2:=r1.Tu (B:=(m'.f id).bq) (bF.toList.take ((m'.f id).base+sl*es)++ys++bF.toList.drop ((m'.f id).base+sl*es+ys.length)).toArray zD df (r'.jm id k hk bc);have gQ:=wb (xs:=bF)
                 have r3:=r2.push (l:=⟨(m'.f id).bq,(m'.f id).base,(m'.f id).size⟩) (cells:=k.cells.take (sl*es)++e7) (setRow_heap w _ bF _ e' (0,0) w1) (by simp;omega) (by simp;omega)
                  (λj v hj=>by
                    by_cases kg:j<sl*es
                    ·rw[fw (by simp;omega),Kv kg]at hj;obtain⟨y,hy,hV⟩:=w6 j v hj;refine⟨y,?_,hV⟩;rw[Gu,gU,fw (by simp;omega),Kv (by simp;omega)];simpa using hy
                    ·rw[fT (by simp;omega)]at hj;obtain⟨y,hy,hV⟩:=q1.get hj;refine⟨y,?_,hV⟩
                     have Sv:j-(k.cells.take (sl*es)).length<ys.length:=by
                      rcases dK (j-(k.cells.take (sl*es)).length) ys.length with hh|hh
                      ·exact hh
                      ·rw[AZ hh]at hy;cases hy
                     simp only[nv]at Sv;rw[Gu,gU,fT (by simp;omega),fw (by simp;omega),<-hy];congr 1;simp
                     omega) zD df (r'.jm id k hk bc) (r'.mj id k hk)
                 unfold Oper.wp;rw[Kp _ _ (by rw[dW,hx];exact hr),Oper.upon_value,ey];refine nC h r3 ?_ hn;have pT:=m'.yE ⟨(m'.f id).bq,(m'.f id).base,(m'.f id).size⟩
                 have:=V.slice (m:=m'.push ⟨(m'.f id).bq,(m'.f id).base,(m'.f id).size⟩) (id:=m'.n) (off:=0) (es:=es) (n:=sl+n) (c:=sl+n) (o:=(m'.f id).base) (cap:=cap) (by simp[Mu.push])
                  (cy _) gR (λ_=>by rw[pT];simp) (by rw[pT];simpa using k4)
                 rw[pT,r'.h.n]at this;exact this
                ·obtain⟨ga,q3,q4⟩:=((r'.h.row hk).take (sl*es)).list;refine fresh (J ⟨(m'.f id).bq,o',ae⟩) sl cap (k.cells.take (sl*es)) ga ai (H'.set id ae) r1 dW q3 (by simp;omega) ?_ (λe=>by cases e) Gk (by omega) (by omega) hb h;intro b Ia j v hj;cases Ia;by_cases qm:0<cap
                 ·have ho':=k3 qm;simp only[rc]at ho';subst ho';exact q4 j v hj
                 ·have eW:sl=0:=by omega
                  subst eW;have:ga=[]:=mL (by rw[<-q3.1];simp);rw[this]at hj;simp at hj
               ·cases cU
             ·cases cU
         ·cases cU
     ·cases h
    ·cases h
   ·cases h
  ·cases h
 ·cases h
def zuF{o:Oper}{Q:Exit->Act->World->Prop}{t e:TypeId}{s:Operand}{sv v:Value}{ys:List Value}{n:Nat}{Sg:AH}{zv:Value}{es cB:Nat}{g:Bool}{z:List Value}
(he:cS P t=J e)(ht:cA P e=J (g,es,cB,z))(jo:zv.cells.toList=z)(Gk:0<n)(ot:e7.length=n*es)(q1:Vl m e7 ys)
(jH:V m sv (a.eval s))(cU:su P t sv e7 n H=J (v,Sg))(hK:bB c.nt K o.dst (.v v) fr Sg)(r':aX c m fr H a w)
(hG:∀(s0:Option Addr) (cg eA:Nat) (ga:List Value),a.eval s=.slice s0 cg eA->ga.length=cg*es->(∀b,s0=J b->∀(j:Nat) (v:Value),ga[j]? =J v->w.cell? (b.add j)=J v)->(s0=ae->cg=0/\eA=0)->eA<cg+n->cg+n<=4611686018427387904->(cg+n)*cB<=140737488355328->
   (execOp a.eval o).run P w=.ok (.value (.slice (J ⟨w.heap.size,0,ae⟩) (cg+n) (grownCap w (cg+n) eA e))) (w.drew.alloc (.cells (ga.toArray++ys.toArray++Builtin.zeroCells zv.cells (grownCap w (cg+n) eA e-(cg+n))) e)))
(hR:∀(bq off sl cap:Nat) (bF:Array Value) (e':TypeId),a.eval s=.slice (J ⟨bq,off,ae⟩) sl cap->w.heap[bq]? =J (.cells bF e' (0,0))->sl+n<=cap->off+sl*es+ys.length<=bF.size->ys.all Value.oneCell'=Z->
   (execOp a.eval o).run P w=.ok (.value (.slice (J ⟨bq,off,ae⟩) (sl+n) cap)) (w.setRow bq (bF.toList.take (off+sl*es)++ys++bF.toList.drop (off+sl*es+ys.length)).toArray))
(hn:∀m' ai H' a' w',K ai H'->aX c m' ai H' a' w'->next a' w'):o.wp P a w next Q:=by
 unfold su at cU;simp only[he,ht]at cU;split at cU
 ·cases cU
 ·rename_i kh;have c1:es≠0:=λe=>kh (.inl e)
  have c2:z.length=es:=by
   rcases Nat.decEq z.length es with h|h
   ·exact absurd (.inr (.inl h)) kh
   ·exact h
  have c3:e7.all lQ=Z:=by
   cases hh:e7.all lQ with
   |true=>rfl
   |false=>exact absurd (.inr (.inr hh)) kh
  have Rb:zv.cells.size=es:=by rw[<-c2,<-jo];simp
  have xV:ys.all Value.oneCell'=Z:=bm.2 (Gc q1 c3);have BP:ys.length=n*es:=by rw[<-q1.1,ot]
  have fresh:∀(s0:Option Addr) (cg eA:Nat) (kP ga:List Value) (dI:FR) (H2:AH),aX c m dI H2 a w->a.eval s=.slice s0 cg eA->Vl m kP ga->kP.length=cg*es->
   (∀b,s0=J b->∀(j:Nat) (v:Value),ga[j]? =J v->w.cell? (b.add j)=J v)->(s0=ae->cg=0/\eA=0)->eA<cg+n->cg+n<=4611686018427387904->(cg+n)*cB<=140737488355328->
   bB c.nt K o.dst (.v (.slice (J ⟨H2.n,0,J es⟩) (cg+n) (cg+n))) dI (H2.push ⟨Z,kP++e7⟩)->o.wp P a w next Q:=by
   intro s0 cg eA kP ga dI H2 r2 dW Ed hlo holds lD hg EG hb hK;have hol:ga.length=cg*es:=by rw[<-Ed.1,hlo]
   have hr:=hG s0 cg eA ga dW hol holds lD hg EG hb;have qG:=grownCap_ge w (cg+n) eA e;obtain⟨g1,g2,g3⟩:=RN (es:=es) (k:=grownCap w (cg+n) eA e) (need:=cg+n) Ed q1 (by rw[bP,hlo,ot,nT]) Rb qG;unfold Oper.wp;rw[hr];refine nC hK (r2.drew.fresh (size:=grownCap w (cg+n) eA e*es) e g1 g2 g3) ?_ hn;exact Lj r2.h.n (cy _) _ (cy _) qG
  split at cU
  ·
   generalize dW:a.eval s=y at jH;cases jH with
   |mf LU=>
    split at cU
    ·omega
    ·split at cU
     ·rename_i hb;cases cU;refine fresh LU 0 0 [] [] fr H r' dW (.nil _) (by simp) (λb _ j v hj=>by simp at hj) (λ_=>⟨rfl,rfl⟩) (by omega) (by omega) (by simpa using hb.1) ?_;simpa using hK
     ·cases cU
  ·rename_i id off bw sl sc;generalize dW:a.eval s=y at jH;have XM:=jH;cases jH with
   |slice bY k1 k2 k3 k4=>
    rename_i o' cap;split at cU
    ·omega
    ·split at cU
     ·cases cU
     ·rename_i k hk;split at cU
      ·rename_i hc;obtain⟨bc,hes,hfit,hb,h62⟩:=hc;subst hes;split at cU
       ·
        rename_i nH;split at cU
        ·rename_i cs dn;cases cU
         have hne:e7≠[]:=λe=>by
          rw[e]at ot;have:=Ui Gk (OB c1);simp at ot;omega
         obtain⟨bF,e',g1,g2,g3⟩:=r'.HC hk bc dn q1 hne;have ho':=k3 (by omega);subst ho';have hr:=hR (m.f id).bq ((m.f id).base+off) sl cap bF e' dW g1 (by omega) (by rw[iN (m.f id).base];exact g2) xV;unfold Oper.wp;rw[hr,Oper.upon_value];rw[iN (m.f id).base];exact nC hK g3 (.slice bY nH k2 k3 k4) hn
        ·cases cU
       ·rename_i nH;split at cU
        ·rename_i T7;subst T7;cases cU;obtain⟨bF,e',fz,w1,w2,w3,w5,w6⟩:=r'.h.cells id k hk;rw[w5 bc]at w1;have r1:=r'.kill id;have Tn:(H.set id ae).n=H.n:=rfl;by_cases gR:sl+n<=cap
         ·
          have ho':=k3 (by omega);simp only[rc]at ho';subst ho';have Me:sl*es+n*es<=cap*es:=by rw[<-nT];exact gA _ gR
          have hr:=hR (m.f id).bq (m.f id).base sl cap bF e' dW w1 gR (by omega) xV
          have zD:∀i2 BK,(H.set id ae).b i2=J BK->(m.f i2).bq≠(m.f id).bq:=by
           intro i2 BK cF;simp only[AH.set]at cF;split at cF
           ·cases cF
           ·rename_i P9;exact λe2=>r'.h.apart id i2 k BK hk cF (λe=>P9 e.symm) bc e2.symm
          have df:∀t2,cK fr a.tmps t2≠J (m.f id).bq:=λt2 uG=>r'.apart t2 _ id k uG hk rfl
          have r2:=r1.Tu (B:=(m.f id).bq) (bF.toList.take ((m.f id).base+sl*es)++ys++bF.toList.drop ((m.f id).base+sl*es+ys.length)).toArray zD df (r'.jm id k hk bc);have gQ:=wb (xs:=bF)
          have r3:=r2.push (l:=⟨(m.f id).bq,(m.f id).base,(m.f id).size⟩) (cells:=k.cells.take (sl*es)++e7) (setRow_heap w _ bF _ e' (0,0) w1) (by simp;omega) (by simp;omega)
           (λj v hj=>by
             by_cases kg:j<sl*es
             ·rw[fw (by simp;omega),Kv kg]at hj;obtain⟨y,hy,hV⟩:=w6 j v hj;refine⟨y,?_,hV⟩;rw[Gu,gU,fw (by simp;omega),Kv (by simp;omega)];simpa using hy
             ·rw[fT (by simp;omega)]at hj;obtain⟨y,hy,hV⟩:=q1.get hj;refine⟨y,?_,hV⟩
              have Sv:j-(k.cells.take (sl*es)).length<ys.length:=by
               rcases dK (j-(k.cells.take (sl*es)).length) ys.length with hh|hh
               ·exact hh
               ·rw[AZ hh]at hy;cases hy
              simp only[nv]at Sv;rw[Gu,gU,fT (by simp;omega),fw (by simp;omega),<-hy];congr 1;simp
              omega) zD df (r'.jm id k hk bc) (r'.mj id k hk)
          unfold Oper.wp;rw[hr,Oper.upon_value];refine nC hK r3 ?_ hn;have pT:=m.yE ⟨(m.f id).bq,(m.f id).base,(m.f id).size⟩
          have:=V.slice (m:=m.push ⟨(m.f id).bq,(m.f id).base,(m.f id).size⟩) (id:=m.n) (off:=0) (es:=es) (n:=sl+n) (c:=sl+n) (o:=(m.f id).base) (cap:=cap) (by simp[Mu.push])
           (cy _) gR (λ_=>by rw[pT];simp) (by rw[pT];simpa using k4)
          rw[pT,r'.h.n]at this;exact this
         ·obtain⟨ga,q3,q4⟩:=((r'.h.row hk).take (sl*es)).list;refine fresh (J ⟨(m.f id).bq,o',ae⟩) sl cap (k.cells.take (sl*es)) ga fr (H.set id ae) r1 dW q3 (by simp;omega) ?_ (λe=>by cases e) (by omega) (by omega) hb hK;intro b Ia j v hj;cases Ia;by_cases qm:0<cap
          ·have ho':=k3 qm;simp only[rc]at ho';subst ho';exact q4 j v hj
          ·have eW:sl=0:=by omega
           subst eW;have:ga=[]:=mL (by rw[<-q3.1];simp);rw[this]at hj;simp at hj
        ·cases cU
      ·cases cU
  ·cases cU
end
end Go.Am
