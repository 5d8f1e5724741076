import Derived.Test.YtnojafnlicbhpaaGreatAmI
open Option renaming none→ae,some→J
open Bool renaming true→Z
set_option linter.defProp false
namespace Go.Am
def bP:=@List.length_append
def jD:=@List.map_cons
def nu:=@List.length_take
def p8:=@List.map_nil
def Ov:=@Nat.pos_of_ne_zero
def T9:=@List.map_toArray
def Ua:=@Nat.mul_pos
section
variable {c:qU}{m:Mu}{fr:FR}{H:AH}{a:Act}{w:World}{P:Program}{K:FR->AH->Prop}{next:Act->World->Prop}
variable{e8:List Value}
def Tq{kr f7 J6:List Value}{zv:Value}{es k need:Nat}(h1:Vl m kr f7)(h2:Vl m e8 J6)(hl:(kr++e8).length=need*es)(hz:zv.cells.size=es)(hk:need<=k):
 k*es<=(f7.toArray++J6.toArray++Builtin.zeroCells zv.cells (k-need)).size/\(kr++e8).length<=k*es/\
  ∀(i:Nat) (v:Value),(kr++e8)[i]? =J v->∃c,(f7.toArray++J6.toArray++Builtin.zeroCells zv.cells (k-need))[i]? =J c/\V m v c:=by
 have hv:=h1.append h2;have hkk:need*es+(k-need)*es=k*es:=by rw[<-nS];congr 1;omega
 refine⟨?_,?_,λi v hi=>?_⟩
 ·have:=hv.1;simp only[Array.size_append,List.size_toArray,size_zeroCells,hz];simp only[bP]at this hl;omega
 ·rw[hl];exact gA _ hk
 ·obtain⟨y,hy,hV⟩:=hv.get hi;refine⟨y,?_,hV⟩;rw[<-T6,Ab7]
  have hlt:i<(f7++J6).length:=by
   rcases dK i (f7++J6).length with h|h
   ·exact h
   ·rw[AY h]at hy;cases hy
  rw[fw (by simpa using hlt)];simpa using hy
def zze{t ty e:TypeId}{i:TypeInfo}{z:Value}(ht:P.underlying t=J (.slice e))(hi:P.info? e=J i)(hz:i.zero=J z)
{s0:Option Addr}{cg eB n cp:Nat}{kr:List Value}{ad:Addr}(hlo:kr.length=cg*i.size)(holds:∀b,s0=J b->∀(j:Nat) (v:Value),kr[j]? =J v->w.cell? (b.add j)=J v)(kY:s0=ae->cg=0/\eB=0)
(hl:e8.length=n*i.size)(LW:∀(j:Nat) (v:Value),e8[j]? =J v->w.cell? (ad.add j)=J v)(h0:0<n)
(hg:eB<cg+n)(DK:cg+n<=4611686018427387904)(hb:(cg+n)*i.bytes<=140737488355328):
 (Builtin.append_ #[t,t] ty #[.slice s0 cg eB,.slice (J ad) n cp]).run P w=
   .ok (.slice (J ⟨w.heap.size,0,ae⟩) (cg+n) (grownCap w (cg+n) eB e)) (w.drew.alloc (.cells (kr.toArray++e8.toArray++Builtin.zeroCells z.cells (grownCap w (cg+n) eB e-(cg+n))) e)):=by
 cases s0 with
 |none=>
  obtain⟨rfl,rfl⟩:=kY rfl;have ho:kr=[]:=mK (by simpa using hlo);subst ho;simp only[gk]at hb DK⊢;have hr:=run_append_nil (P:=P) w t ty e i z ht hi hz ad n cp e8 hl LW h0 (by omega) (by omega);rw[hr];simp
 |some b=>exact run_append_grow (P:=P) w t ty e i z ht hi hz b cg eB kr hlo (holds b rfl) ad n cp e8 hl LW hg (by omega) (growslice_fits hg hb)
def zty{o:Oper}{args:Array Operand}{gY:Array TypeId}{Q:Exit->Act->World->Prop}(ho:o.op=.call ⟨.builtin .append,args,gY⟩)
(h:match args.toList,gY.toList with
 |[s,x],[t,t']=>if t=t' then match bh fr H s with
  |some (sv,ai,H')=>match iy P t ai H' x with
   |some (new,n)=>match rW P t sv new n H' with
    |some (v,o4)=>bB c.nt K o.dst (.v v) ai o4
    |none=>False
   |none=>False
  |none=>False
  else False
 |_,_=>False)(r:aX c m fr H a w)
(hn:∀m' ai H' a' w',K ai H'->aX c m' ai H' a' w'->next a' w'):o.wp P a w next Q:=by
 split at h
 ·rename_i s x t t' hargs htys;split at h
  ·rename_i xZ;subst xZ;split at h
   ·rename_i sv ai H' hm;split at h
    ·rename_i e8 n iX;split at h
     ·rename_i v o4 cU;obtain⟨m',cV,r',jF⟩:=Rd r hm;unfold rW at cU;split at cU
      ·cases cU
      ·rename_i e he;split at cU
       ·cases cU
       ·rename_i g es cz z ht;obtain⟨n7,ad,cp,hx,CP⟩:=D2 r' he ht iX;obtain⟨i,zv,hi,hz,jj,eA,na,_,hs⟩:=jB (w:=w) ht;split at cU
        ·cases cU
        ·rename_i kh;have c1:es≠0:=λe=>kh (.inl e)
         have c2:z.length=es:=by
          rcases Nat.decEq z.length es with h|h
          ·exact absurd (.inr (.inl h)) kh
          ·exact h
         have c3:e8.all lN=Z:=by
          cases hh:e8.all lN with
          |true=>rfl
          |false=>exact absurd (.inr (.inr hh)) kh
         have TZ:zv.cells.size=es:=by rw[<-c2,<-jj];simp
         have hu:=pe he
         have Kn:∀(y:Value) (w':World),(Builtin.append_ #[t,t] o.type #[a.eval s,a.eval x]).run P w=.ok y w'->(execOp a.eval o).run P w=.ok (.value y) w':=by
          intro y w' hr;have ea:args= #[s,x]:=by apply sD;simpa using hargs
          have et:gY= #[t,t]:=by apply sD;simpa using htys
          simp only[execOp,ho,resolve,ea,et,Sem.run_bind,Sem.run_pure,Result.andThen_ok,invoke,builtin,T9,jD,p8,hr]
         have fresh:∀(s0:Option Addr) (cg eB:Nat) (kr f7:List Value) (dJ:FR) (H2:AH),aX c m' dJ H2 a w->a.eval s=.slice s0 cg eB->Vl m' kr f7->kr.length=cg*es->
          (∀b,s0=J b->∀(j:Nat) (v:Value),f7[j]? =J v->w.cell? (b.add j)=J v)->(s0=ae->cg=0/\eB=0)->0<n->eB<cg+n->cg+n<=4611686018427387904->(cg+n)*cz<=140737488355328->
          bB c.nt K o.dst (.v (.slice (J ⟨H2.n,0,J es⟩) (cg+n) (cg+n))) dJ (H2.push ⟨Z,kr++e8⟩)->o.wp P a w next Q:=by
          intro s0 cg eB kr f7 dJ H2 r2 dU Eh hlo holds kY h0 hg DK hb hK;obtain⟨b,o',ys,rfl,q1,q2⟩:=CP h0;have BQ:ys.length=n*i.size:=by rw[<-q1.1,n7,eA]
          have hol:f7.length=cg*i.size:=by rw[<-Eh.1,hlo,eA]
          have hr:=zze (P:=P) (w:=w) (ty:=o.type) hu hi hz (s0:=s0) (cp:=cp) hol holds kY BQ q2 h0 hg DK (by rw[na];exact hb);have q9:=grownCap_ge w (cg+n) eB e;obtain⟨g1,g2,g3⟩:=Tq (es:=es) (k:=grownCap w (cg+n) eB e) (need:=cg+n) Eh q1 (by rw[bP,hlo,n7,nS]) TZ q9;unfold Oper.wp;rw[Kn _ _ (by rw[dU,hx];exact hr)];refine nM hK (r2.drew.fresh (size:=grownCap w (cg+n) eB e*es) e g1 g2 g3) ?_ hn;exact LI r2.h.n (cy _) _ (cy _) q9
         split at cU
         ·
          generalize dU:a.eval s=y at jF;cases jF with
          |mH KT=>
           split at cU
           ·cases cU;rename_i sg;subst sg;unfold Oper.wp;rw[Kn _ _ (by rw[dU,hx];exact YP t o.type e i hu hi _ _ _ _ _ (cy _))];exact nM h r' (.mH KT) hn
           ·rename_i sg;split at cU
            ·rename_i hb;cases cU;refine fresh KT 0 0 [] [] ai H' r' dU (.nil _) (by simp) (λb _ j v hj=>by simp at hj) (λ_=>⟨rfl,rfl⟩) (by omega) (by omega) (by omega) (by simpa using hb.1) ?_;simpa using h
            ·cases cU
         ·rename_i id off bw sl sc;generalize dU:a.eval s=y at jF;have Aae:=jF;cases jF with
          |slice bY k1 k2 k3 k4=>
           rename_i o' cap;split at cU
           ·cases cU;rename_i sg;subst sg;unfold Oper.wp;rw[Kn _ _ (by rw[dU,hx];exact YP t o.type e i hu hi _ _ _ _ _ (by omega))];exact nM h r' Aae hn
           ·rename_i sg;split at cU
            ·cases cU
            ·rename_i k hk;split at cU
             ·rename_i hc;obtain⟨bc,hes,hfit,hb,h62⟩:=hc;subst hes;have Gc:0<n:=by omega
              split at cU
              ·
               rename_i nA;split at cU
               ·rename_i cs dj;cases cU;obtain⟨b,ob,ys,rfl,q1,q2⟩:=CP Gc
                have hne:e8≠[]:=λe=>by
                 rw[e]at n7;have:=Ua Gc (Ov c1);simp at n7;omega
                obtain⟨bF,e',g1,g2,g3⟩:=r'.Jb hk bc dj q1 hne;have ho':=k3 (by omega);subst ho'
                have hr:=Y5 (P:=P) (w:=w) t o.type e i hu hi (m'.f id).bq ((m'.f id).base+off) sl cap bF e' g1 ⟨b,ob,ae⟩ n cp ys (by rw[<-q1.1,n7,eA]) q2 (DO q1 c3) (by omega)
                 (by rw[eA];rw[iN (m'.f id).base];exact g2)
                unfold Oper.wp;rw[Kn _ _ (by rw[dU,hx];exact hr),Oper.upon_value];rw[eA,iN (m'.f id).base];exact nM h g3 (.slice bY nA k2 k3 k4) hn
               ·cases cU
              ·rename_i nA;split at cU
               ·rename_i PB;subst PB;cases cU;have Eh:Vl m' (k.cells.take (sl*es)) (k.cells.take (sl*es))\/True:=.inr trivial;obtain⟨bF,e',fz,w1,w2,w3,w5,w6⟩:=r'.h.cells id k hk;rw[w5 bc]at w1;have r1:=r'.kill id;have To:(H'.set id ae).n=H'.n:=rfl;by_cases gN:sl+n<=cap
                ·
                 obtain⟨b,ob,ys,rfl,q1,q2⟩:=CP Gc;have ho':=k3 (by omega);simp only[rb]at ho';subst ho';have BQ:ys.length=n*es:=by rw[<-q1.1,n7]
                 have Nt:sl*es+n*es<=cap*es:=by rw[<-nS];exact gA _ gN
                 have hr:=Y5 (P:=P) (w:=w) t o.type e i hu hi (m'.f id).bq (m'.f id).base sl cap bF e' w1 ⟨b,ob,ae⟩ n cp ys (by rw[BQ,eA]) q2 (DO q1 c3) gN
                  (by rw[eA];omega)
                 have Aq:∀i2 Cl,(H'.set id ae).b i2=J Cl->(m'.f i2).bq≠(m'.f id).bq:=by
                  intro i2 Cl cF;simp only[AH.set]at cF;split at cF
                  ·cases cF
                  ·rename_i Qq;exact λe2=>r'.h.apart id i2 k Cl hk cF (λe=>Qq e.symm) bc e2.symm
                 have cY:∀t2,cI ai a.tmps t2≠J (m'.f id).bq:=λt2 uI=>r'.apart t2 _ id k uI hk rfl
                 have r2:=r1.TC (B:=(m'.f id).bq) (bF.toList.take ((m'.f id).base+sl*es)++ys++bF.toList.drop ((m'.f id).base+sl*es+ys.length)).toArray Aq cY (r'.jq id k hk bc);have gR:=wa (xs:=bF)
                 have r3:=r2.push (l:=⟨(m'.f id).bq,(m'.f id).base,(m'.f id).size⟩) (cells:=k.cells.take (sl*es)++e8) (setRow_heap w _ bF _ e' (0,0) w1) (by simp;omega) (by simp;omega)
                  (λj v hj=>by
                    by_cases j8:j<sl*es
                    ·rw[fw (by simp;omega),Kr j8]at hj;obtain⟨y,hy,hV⟩:=w6 j v hj;refine⟨y,?_,hV⟩;rw[Gr,gU,fw (by simp;omega),Kr (by simp;omega)];simpa using hy
                    ·rw[fT (by simp;omega)]at hj;obtain⟨y,hy,hV⟩:=q1.get hj;refine⟨y,?_,hV⟩
                     have Rb:j-(k.cells.take (sl*es)).length<ys.length:=by
                      rcases dK (j-(k.cells.take (sl*es)).length) ys.length with hh|hh
                      ·exact hh
                      ·rw[AY hh]at hy;cases hy
                     simp only[nu]at Rb;rw[Gr,gU,fT (by simp;omega),fw (by simp;omega),<-hy];congr 1;simp
                     omega) Aq cY (r'.jq id k hk bc) (r'.mI id k hk)
                 unfold Oper.wp;rw[Kn _ _ (by rw[dU,hx];exact hr),Oper.upon_value,eA];refine nM h r3 ?_ hn;have pO:=m'.Ab ⟨(m'.f id).bq,(m'.f id).base,(m'.f id).size⟩
                 have:=V.slice (m:=m'.push ⟨(m'.f id).bq,(m'.f id).base,(m'.f id).size⟩) (id:=m'.n) (off:=0) (es:=es) (n:=sl+n) (c:=sl+n) (o:=(m'.f id).base) (cap:=cap) (by simp[Mu.push])
                  (cy _) gN (λ_=>by rw[pO];simp) (by rw[pO];simpa using k4)
                 rw[pO,r'.h.n]at this;exact this
                ·obtain⟨f7,q3,q4⟩:=((r'.h.row hk).take (sl*es)).list;refine fresh (J ⟨(m'.f id).bq,o',ae⟩) sl cap (k.cells.take (sl*es)) f7 ai (H'.set id ae) r1 dU q3 (by simp;omega) ?_ (λe=>by cases e) Gc (by omega) (by omega) hb h;intro b Il j v hj;cases Il;by_cases qY:0<cap
                 ·have ho':=k3 qY;simp only[rb]at ho';subst ho';exact q4 j v hj
                 ·have eY:sl=0:=by omega
                  subst eY;have:f7=[]:=mK (by rw[<-q3.1];simp);rw[this]at hj;simp at hj
               ·cases cU
             ·cases cU
         ·cases cU
     ·cases h
    ·cases h
   ·cases h
  ·cases h
 ·cases h
def zua{o:Oper}{Q:Exit->Act->World->Prop}{t e:TypeId}{s:Operand}{sv v:Value}{ys:List Value}{n:Nat}{RS:AH}{zv:Value}{es cz:Nat}{g:Bool}{z:List Value}
(he:cR P t=J e)(ht:cA P e=J (g,es,cz,z))(jj:zv.cells.toList=z)(Gc:0<n)(n7:e8.length=n*es)(q1:Vl m e8 ys)
(jF:V m sv (a.eval s))(cU:rW P t sv e8 n H=J (v,RS))(hK:bB c.nt K o.dst (.v v) fr RS)(r':aX c m fr H a w)
(hG:∀(s0:Option Addr) (cg eB:Nat) (f7:List Value),a.eval s=.slice s0 cg eB->f7.length=cg*es->(∀b,s0=J b->∀(j:Nat) (v:Value),f7[j]? =J v->w.cell? (b.add j)=J v)->(s0=ae->cg=0/\eB=0)->eB<cg+n->cg+n<=4611686018427387904->(cg+n)*cz<=140737488355328->
   (execOp a.eval o).run P w=.ok (.value (.slice (J ⟨w.heap.size,0,ae⟩) (cg+n) (grownCap w (cg+n) eB e))) (w.drew.alloc (.cells (f7.toArray++ys.toArray++Builtin.zeroCells zv.cells (grownCap w (cg+n) eB e-(cg+n))) e)))
(hR:∀(bq off sl cap:Nat) (bF:Array Value) (e':TypeId),a.eval s=.slice (J ⟨bq,off,ae⟩) sl cap->w.heap[bq]? =J (.cells bF e' (0,0))->sl+n<=cap->off+sl*es+ys.length<=bF.size->ys.all Value.oneCell'=Z->
   (execOp a.eval o).run P w=.ok (.value (.slice (J ⟨bq,off,ae⟩) (sl+n) cap)) (w.setRow bq (bF.toList.take (off+sl*es)++ys++bF.toList.drop (off+sl*es+ys.length)).toArray))
(hn:∀m' ai H' a' w',K ai H'->aX c m' ai H' a' w'->next a' w'):o.wp P a w next Q:=by
 unfold rW at cU;simp only[he,ht]at cU;split at cU
 ·cases cU
 ·rename_i kh;have c1:es≠0:=λe=>kh (.inl e)
  have c2:z.length=es:=by
   rcases Nat.decEq z.length es with h|h
   ·exact absurd (.inr (.inl h)) kh
   ·exact h
  have c3:e8.all lN=Z:=by
   cases hh:e8.all lN with
   |true=>rfl
   |false=>exact absurd (.inr (.inr hh)) kh
  have TZ:zv.cells.size=es:=by rw[<-c2,<-jj];simp
  have ym:ys.all Value.oneCell'=Z:=bm.2 (DO q1 c3);have BQ:ys.length=n*es:=by rw[<-q1.1,n7]
  have fresh:∀(s0:Option Addr) (cg eB:Nat) (kr f7:List Value) (dJ:FR) (H2:AH),aX c m dJ H2 a w->a.eval s=.slice s0 cg eB->Vl m kr f7->kr.length=cg*es->
   (∀b,s0=J b->∀(j:Nat) (v:Value),f7[j]? =J v->w.cell? (b.add j)=J v)->(s0=ae->cg=0/\eB=0)->eB<cg+n->cg+n<=4611686018427387904->(cg+n)*cz<=140737488355328->
   bB c.nt K o.dst (.v (.slice (J ⟨H2.n,0,J es⟩) (cg+n) (cg+n))) dJ (H2.push ⟨Z,kr++e8⟩)->o.wp P a w next Q:=by
   intro s0 cg eB kr f7 dJ H2 r2 dU Eh hlo holds kY hg DK hb hK;have hol:f7.length=cg*es:=by rw[<-Eh.1,hlo]
   have hr:=hG s0 cg eB f7 dU hol holds kY hg DK hb;have q9:=grownCap_ge w (cg+n) eB e;obtain⟨g1,g2,g3⟩:=Tq (es:=es) (k:=grownCap w (cg+n) eB e) (need:=cg+n) Eh q1 (by rw[bP,hlo,n7,nS]) TZ q9;unfold Oper.wp;rw[hr];refine nM hK (r2.drew.fresh (size:=grownCap w (cg+n) eB e*es) e g1 g2 g3) ?_ hn;exact LI r2.h.n (cy _) _ (cy _) q9
  split at cU
  ·
   generalize dU:a.eval s=y at jF;cases jF with
   |mH KT=>
    split at cU
    ·omega
    ·split at cU
     ·rename_i hb;cases cU;refine fresh KT 0 0 [] [] fr H r' dU (.nil _) (by simp) (λb _ j v hj=>by simp at hj) (λ_=>⟨rfl,rfl⟩) (by omega) (by omega) (by simpa using hb.1) ?_;simpa using hK
     ·cases cU
  ·rename_i id off bw sl sc;generalize dU:a.eval s=y at jF;have Aae:=jF;cases jF with
   |slice bY k1 k2 k3 k4=>
    rename_i o' cap;split at cU
    ·omega
    ·split at cU
     ·cases cU
     ·rename_i k hk;split at cU
      ·rename_i hc;obtain⟨bc,hes,hfit,hb,h62⟩:=hc;subst hes;split at cU
       ·
        rename_i nA;split at cU
        ·rename_i cs dj;cases cU
         have hne:e8≠[]:=λe=>by
          rw[e]at n7;have:=Ua Gc (Ov c1);simp at n7;omega
         obtain⟨bF,e',g1,g2,g3⟩:=r'.Jb hk bc dj q1 hne;have ho':=k3 (by omega);subst ho';have hr:=hR (m.f id).bq ((m.f id).base+off) sl cap bF e' dU g1 (by omega) (by rw[iN (m.f id).base];exact g2) ym;unfold Oper.wp;rw[hr,Oper.upon_value];rw[iN (m.f id).base];exact nM hK g3 (.slice bY nA k2 k3 k4) hn
        ·cases cU
       ·rename_i nA;split at cU
        ·rename_i PB;subst PB;cases cU;obtain⟨bF,e',fz,w1,w2,w3,w5,w6⟩:=r'.h.cells id k hk;rw[w5 bc]at w1;have r1:=r'.kill id;have To:(H.set id ae).n=H.n:=rfl;by_cases gN:sl+n<=cap
         ·
          have ho':=k3 (by omega);simp only[rb]at ho';subst ho';have Nt:sl*es+n*es<=cap*es:=by rw[<-nS];exact gA _ gN
          have hr:=hR (m.f id).bq (m.f id).base sl cap bF e' dU w1 gN (by omega) ym
          have Aq:∀i2 Cl,(H.set id ae).b i2=J Cl->(m.f i2).bq≠(m.f id).bq:=by
           intro i2 Cl cF;simp only[AH.set]at cF;split at cF
           ·cases cF
           ·rename_i Qq;exact λe2=>r'.h.apart id i2 k Cl hk cF (λe=>Qq e.symm) bc e2.symm
          have cY:∀t2,cI fr a.tmps t2≠J (m.f id).bq:=λt2 uI=>r'.apart t2 _ id k uI hk rfl
          have r2:=r1.TC (B:=(m.f id).bq) (bF.toList.take ((m.f id).base+sl*es)++ys++bF.toList.drop ((m.f id).base+sl*es+ys.length)).toArray Aq cY (r'.jq id k hk bc);have gR:=wa (xs:=bF)
          have r3:=r2.push (l:=⟨(m.f id).bq,(m.f id).base,(m.f id).size⟩) (cells:=k.cells.take (sl*es)++e8) (setRow_heap w _ bF _ e' (0,0) w1) (by simp;omega) (by simp;omega)
           (λj v hj=>by
             by_cases j8:j<sl*es
             ·rw[fw (by simp;omega),Kr j8]at hj;obtain⟨y,hy,hV⟩:=w6 j v hj;refine⟨y,?_,hV⟩;rw[Gr,gU,fw (by simp;omega),Kr (by simp;omega)];simpa using hy
             ·rw[fT (by simp;omega)]at hj;obtain⟨y,hy,hV⟩:=q1.get hj;refine⟨y,?_,hV⟩
              have Rb:j-(k.cells.take (sl*es)).length<ys.length:=by
               rcases dK (j-(k.cells.take (sl*es)).length) ys.length with hh|hh
               ·exact hh
               ·rw[AY hh]at hy;cases hy
              simp only[nu]at Rb;rw[Gr,gU,fT (by simp;omega),fw (by simp;omega),<-hy];congr 1;simp
              omega) Aq cY (r'.jq id k hk bc) (r'.mI id k hk)
          unfold Oper.wp;rw[hr,Oper.upon_value];refine nM hK r3 ?_ hn;have pO:=m.Ab ⟨(m.f id).bq,(m.f id).base,(m.f id).size⟩
          have:=V.slice (m:=m.push ⟨(m.f id).bq,(m.f id).base,(m.f id).size⟩) (id:=m.n) (off:=0) (es:=es) (n:=sl+n) (c:=sl+n) (o:=(m.f id).base) (cap:=cap) (by simp[Mu.push])
           (cy _) gN (λ_=>by rw[pO];simp) (by rw[pO];simpa using k4)
          rw[pO,r'.h.n]at this;exact this
         ·obtain⟨f7,q3,q4⟩:=((r'.h.row hk).take (sl*es)).list;refine fresh (J ⟨(m.f id).bq,o',ae⟩) sl cap (k.cells.take (sl*es)) f7 fr (H.set id ae) r1 dU q3 (by simp;omega) ?_ (λe=>by cases e) (by omega) (by omega) hb hK;intro b Il j v hj;cases Il;by_cases qY:0<cap
          ·have ho':=k3 qY;simp only[rb]at ho';subst ho';exact q4 j v hj
          ·have eY:sl=0:=by omega
           subst eY;have:f7=[]:=mK (by rw[<-q3.1];simp);rw[this]at hj;simp at hj
        ·cases cU
      ·cases cU
  ·cases cU
end
end Go.Am
