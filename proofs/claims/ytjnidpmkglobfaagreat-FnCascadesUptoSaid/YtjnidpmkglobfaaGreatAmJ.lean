import Derived.Test.YtjnidpmkglobfaaGreatAmI
open Option renaming none→aa,some→J
open Bool renaming true→O
set_option linter.defProp false
namespace Go.Am
def cy:=@List.length_append
def jO:=@List.map_cons
def qP:=@List.map_nil
def tH:=@List.length_take
def Qv:=@Nat.pos_of_ne_zero
def Wg:=@List.map_toArray
def Wh:=@Nat.mul_pos
section
variable {c:rV}{m:Mu}{X:FR}{H:AH}{a:Act}{w:World}{P:Program}{K:FR->AH->Prop}{next:Act->World->Prop}
variable{Y:List Value}
def QN{e d b:List Value}{zv:Value}{es k need:Nat}(l:Vl m e d)(n:Vl m Y b)(g:(e++Y).length=need*es)(s:zv.cells.size=es)(q:need<=k):
 k*es<=(d.toArray++b.toArray++Builtin.zeroCells zv.cells (k-need)).size/\(e++Y).length<=k*es/\
  ∀(i:Nat) (v:Value),(e++Y)[i]? =J v->∃c,(d.toArray++b.toArray++Builtin.zeroCells zv.cells (k-need))[i]? =J c/\V m v c:=by
 have j:=l.append n;have t:need*es+(k-need)*es=k*es:=by rw[<-oF];congr 1;omega
 refine⟨?_,?_,λi v p=>?_⟩
 ·have:=j.1;simp only[Array.size_append,List.size_toArray,size_zeroCells,s];simp only[cy]at this g;omega
 ·rw[g];exact gN _ q
 ·obtain⟨y,f,o⟩:=j.get p;refine⟨y,?_,o⟩;rw[<-Wd,a5J]
  have r:i<(d++b).length:=by
   rcases dS i (d++b).length with h|h
   ·exact h
   ·rw[BT h]at f;cases f
  rw[fE (by simpa using r)];simpa using f
def zyH{t ty e:TypeId}{i:TypeInfo}{z:Value}(s:P.underlying t=J (.slice e))(p:P.info? e=J i)(u:i.zero=J z)
{s0:Option Addr}{d f n cp:Nat}{g:List Value}{h:Addr}(r:g.length=d*i.size)(B:∀b,s0=J b->∀(j:Nat) (v:Value),g[j]? =J v->w.cell? (b.add j)=J v)(D:s0=aa->d=0/\f=0)
(q:Y.length=n*i.size)(k:∀(j:Nat) (v:Value),Y[j]? =J v->w.cell? (h.add j)=J v)(y:0<n)
(o:f<d+n)(x:d+n<=4611686018427387904)(l:(d+n)*i.bytes<=140737488355328):
 (Builtin.append_ #[t,t] ty #[.slice s0 d f,.slice (J h) n cp]).run P w=
   .ok (.slice (J ⟨w.heap.size,0,aa⟩) (d+n) (grownCap w (d+n) f e)) (w.drew.alloc (.cells (g.toArray++Y.toArray++Builtin.zeroCells z.cells (grownCap w (d+n) f e-(d+n))) e)):=by
 cases s0 with
 |none=>
  obtain⟨rfl,rfl⟩:=D rfl;have A:g=[]:=na (by simpa using r);subst A;simp only[gD]at l x⊢;have C:=run_append_nil (P:=P) w t ty e i z s p u h n cp Y q k y (by omega) (by omega);rw[C];simp
 |some b=>exact run_append_grow (P:=P) w t ty e i z s p u b d f g r (B b rfl) h n cp Y q k o (by omega) (growslice_fits o l)
def zs2{o:Oper}{args:Array Operand}{ip:Array TypeId}{Qx1:Exit->Act->World->Prop}(ho:o.op=.call ⟨.builtin .append,args,ip⟩)
(h:match args.toList,ip.toList with
 |[s,x],[t,t']=>if t=t' then match bm X H s with
  |some (sv,A,r)=>match iF P t A r x with
   |some (new,n)=>match th P t sv new n r with
    |some (v,oU)=>bu c.nt K o.dst (.v v) A oU
    |none=>False
   |none=>False
  |none=>False
  else False
 |_,_=>False)(rx1:aT c m X H a w)
(hn:∀d A r a' Q,K A r->aT c d A r a' Q->next a' Q):o.wp P a w next Qx1:=by
 split at h
 ·rename_i s x t t' hargs htys;split at h
  ·rename_i yo;subst yo;split at h
   ·rename_i sv A r hm;split at h
    ·rename_i Y n je;split at h
     ·rename_i v oU f;obtain⟨d,da,q,kd⟩:=U7 rx1 hm;unfold th at f;split at f
      ·cases f
      ·rename_i e he;split at f
       ·cases f
       ·rename_i gx1 es cH zx1 ht;obtain⟨N,ad,cp,hx,CC⟩:=FH q he ht je;obtain⟨i,zv,W,hz,jw,D,nR,_,hs⟩:=jx (w:=w) ht;split at f
        ·cases f
        ·rename_i kK;have c1:es≠0:=λe=>kK (.inl e)
         have c2:zx1.length=es:=by
          rcases Nat.decEq zx1.length es with h|h
          ·exact absurd (.inr (.inl h)) kK
          ·exact h
         have c3:Y.all l8=O:=by
          cases U:Y.all l8 with
          |true=>rfl
          |false=>exact absurd (.inr (.inr U)) kK
         have Sn:zv.cells.size=es:=by rw[<-c2,<-jw];simp
         have hu:=p8 he
         have R:∀(y:Value) (Q:World),(Builtin.append_ #[t,t] o.type #[a.eval s,a.eval x]).run P w=.ok y Q->(execOp a.eval o).run P w=.ok (.value y) Q:=by
          intro y Q M;have ea:args= #[s,x]:=by apply tG;simpa using hargs
          have et:ip= #[t,t]:=by apply tG;simpa using htys
          simp only[execOp,ho,resolve,ea,et,Sem.run_bind,Sem.run_pure,Result.andThen_ok,invoke,builtin,Wg,jO,qP,M]
         have fresh:∀(s0:Option Addr) (p G:Nat) (k9 I:List Value) (dQ:FR) (H2:AH),aT c d dQ H2 a w->a.eval s=.slice s0 p G->Vl d k9 I->k9.length=p*es->
          (∀b,s0=J b->∀(j:Nat) (v:Value),I[j]? =J v->w.cell? (b.add j)=J v)->(s0=aa->p=0/\G=0)->0<n->G<p+n->p+n<=4611686018427387904->(p+n)*cH<=140737488355328->
          bu c.nt K o.dst (.v (.slice (J ⟨H2.n,0,J es⟩) (p+n) (p+n))) dQ (H2.push ⟨O,k9++Y⟩)->o.wp P a w next Qx1:=by
          intro s0 p G k9 I dQ H2 r2 C G9 hlo holds ko h0 hg Hb T hK;obtain⟨b,o',z,rfl,q1,q2⟩:=CC h0;have CD:z.length=n*i.size:=by rw[<-q1.1,N,D]
          have hol:I.length=p*i.size:=by rw[<-G9.1,hlo,D]
          have M:=zyH (P:=P) (w:=w) (ty:=o.type) hu W hz (s0:=s0) (cp:=cp) hol holds ko CD q2 h0 hg Hb (by rw[nR];exact T);have rP:=grownCap_ge w (p+n) G e;obtain⟨g1,g2,g3⟩:=QN (es:=es) (k:=grownCap w (p+n) G e) (need:=p+n) G9 q1 (by rw[cy,hlo,N,oF]) Sn rP;unfold Oper.wp;rw[R _ _ (by rw[C,hx];exact M)];refine oC hK (r2.drew.fresh (size:=grownCap w (p+n) G e*es) e g1 g2 g3) ?_ hn;exact MM r2.h.n (cq _) _ (cq _) rP
         split at f
         ·
          generalize C:a.eval s=y at kd;cases kd with
          |mV PD=>
           split at f
           ·cases f;rename_i tj;subst tj;unfold Oper.wp;rw[R _ _ (by rw[C,hx];exact zle t o.type e i hu W _ _ _ _ _ (cq _))];exact oC h q (.mV PD) hn
           ·rename_i tj;split at f
            ·rename_i T;cases f;refine fresh PD 0 0 [] [] A r q C (.nil _) (by simp) (λb _ j v u=>by simp at u) (λ_=>⟨rfl,rfl⟩) (by omega) (by omega) (by omega) (by simpa using T.1) ?_;simpa using h
            ·cases f
         ·rename_i id off br g sc;generalize C:a.eval s=y at kd;have Zh:=kd;cases kd with
          |slice b7 k1 k2 k3 k4=>
           rename_i o' cap;split at f
           ·cases f;rename_i tj;subst tj;unfold Oper.wp;rw[R _ _ (by rw[C,hx];exact zle t o.type e i hu W _ _ _ _ _ (by omega))];exact oC h q Zh hn
           ·rename_i tj;split at f
            ·cases f
            ·rename_i k E;split at f
             ·rename_i hc;obtain⟨S,hes,hfit,T,tq⟩:=hc;subst hes;have Fz:0<n:=by omega
              split at f
              ·
               rename_i oz;split at f
               ·rename_i cs dA;cases f;obtain⟨b,ob,z,rfl,q1,q2⟩:=CC Fz
                have hne:Y≠[]:=λe=>by
                 rw[e]at N;have:=Wh Fz (Qv c1);simp at N;omega
                obtain⟨F,e',g1,g2,g3⟩:=q.LW E S dA q1 hne;have L:=k3 (by omega);subst L
                have M:=Zc (P:=P) (w:=w) t o.type e i hu W (d.f id).bn ((d.f id).base+off) g cap F e' g1 ⟨b,ob,aa⟩ n cp z (by rw[<-q1.1,N,D]) q2 (Gr q1 c3) (by omega)
                 (by rw[D];rw[i9 (d.f id).base];exact g2)
                unfold Oper.wp;rw[R _ _ (by rw[C,hx];exact M),Oper.upon_value];rw[D,i9 (d.f id).base];exact oC h g3 (.slice b7 oz k2 k3 k4) hn
               ·cases f
              ·rename_i oz;split at f
               ·rename_i TF;subst TF;cases f;have G9:Vl d (k.cells.take (g*es)) (k.cells.take (g*es))\/True:=.inr trivial;obtain⟨F,e',fz,w1,w2,w3,w5,w6⟩:=q.h.cells id k E;rw[w5 S]at w1;have r1:=q.kill id;have Su:(r.set id aa).n=r.n:=rfl;by_cases gT:g+n<=cap
                ·
                 obtain⟨b,ob,z,rfl,q1,q2⟩:=CC Fz;have L:=k3 (by omega);simp only[sk]at L;subst L;have CD:z.length=n*es:=by rw[<-q1.1,N]
                 have PQ:g*es+n*es<=cap*es:=by rw[<-oF];exact gN _ gT
                 have M:=Zc (P:=P) (w:=w) t o.type e i hu W (d.f id).bn (d.f id).base g cap F e' w1 ⟨b,ob,aa⟩ n cp z (by rw[CD,D]) q2 (Gr q1 c3) gT
                  (by rw[D];omega)
                 have At:∀i2 B7,(r.set id aa).b i2=J B7->(d.f i2).bn≠(d.f id).bn:=by
                  intro i2 B7 fa;simp only[AH.set]at fa;split at fa
                  ·cases fa
                  ·rename_i Vs;exact λe2=>q.h.apart id i2 k B7 E fa (λe=>Vs e.symm) S e2.symm
                 have dk:∀t2,cP A a.tmps t2≠J (d.f id).bn:=λt2 u9=>q.apart t2 _ id k u9 E rfl
                 have r2:=r1.RR (B:=(d.f id).bn) (F.toList.take ((d.f id).base+g*es)++z++F.toList.drop ((d.f id).base+g*es+z.length)).toArray At dk (q.jB id k E S);have ie:=xI (xs:=F)
                 have r3:=r2.push (l:=⟨(d.f id).bn,(d.f id).base,(d.f id).size⟩) (cells:=k.cells.take (g*es)++Y) (setRow_heap w _ F _ e' (0,0) w1) (by simp;omega) (by simp;omega)
                  (λj v u=>by
                    by_cases an:j<g*es
                    ·rw[fE (by simp;omega),Me an]at u;obtain⟨y,hy,hV⟩:=w6 j v u;refine⟨y,?_,hV⟩;rw[HJ,gO,fE (by simp;omega),Me (by simp;omega)];simpa using hy
                    ·rw[f9 (by simp;omega)]at u;obtain⟨y,hy,hV⟩:=q1.get u;refine⟨y,?_,hV⟩
                     have TU:j-(k.cells.take (g*es)).length<z.length:=by
                      rcases dS (j-(k.cells.take (g*es)).length) z.length with U|U
                      ·exact U
                      ·rw[BT U]at hy;cases hy
                     simp only[tH]at TU;rw[HJ,gO,f9 (by simp;omega),fE (by simp;omega),<-hy];congr 1;simp
                     omega) At dk (q.jB id k E S) (q.mU id k E)
                 unfold Oper.wp;rw[R _ _ (by rw[C,hx];exact M),Oper.upon_value,D];refine oC h r3 ?_ hn;have qG:=d.zQ ⟨(d.f id).bn,(d.f id).base,(d.f id).size⟩
                 have:=V.slice (m:=d.push ⟨(d.f id).bn,(d.f id).base,(d.f id).size⟩) (id:=d.n) (off:=0) (es:=es) (n:=g+n) (c:=g+n) (o:=(d.f id).base) (cap:=cap) (by simp[Mu.push])
                  (cq _) gT (λ_=>by rw[qG];simp) (by rw[qG];simpa using k4)
                 rw[qG,q.h.n]at this;exact this
                ·obtain⟨I,q3,q4⟩:=((q.h.row E).take (g*es)).list;refine fresh (J ⟨(d.f id).bn,o',aa⟩) g cap (k.cells.take (g*es)) I A (r.set id aa) r1 C q3 (by simp;omega) ?_ (λe=>by cases e) Fz (by omega) (by omega) T h;intro b Lp j v u;cases Lp;by_cases rW:0<cap
                 ·have L:=k3 rW;simp only[sk]at L;subst L;exact q4 j v u
                 ·have fo:g=0:=by omega
                  subst fo;have:I=[]:=na (by rw[<-q3.1];simp);rw[this]at u;simp at u
               ·cases f
             ·cases f
         ·cases f
     ·cases h
    ·cases h
   ·cases h
  ·cases h
 ·cases h
def zt2{o:Oper}{Qx1:Exit->Act->World->Prop}{tx1 e:TypeId}{s:Operand}{sv v:Value}{r:List Value}{n:Nat}{Rl:AH}{zv:Value}{es cH:Nat}{gx1:Bool}{zx1:List Value}
(he:df P tx1=J e)(ht:cE P e=J (gx1,es,cH,zx1))(jw:zv.cells.toList=zx1)(Fz:0<n)(W:Y.length=n*es)(q1:Vl m Y r)
(N:V m sv (a.eval s))(g:th P tx1 sv Y n H=J (v,Rl))(E:bu c.nt K o.dst (.v v) X Rl)(t:aT c m X H a w)
(hG:∀(x:Option Addr) (d i:Nat) (q:List Value),a.eval s=.slice x d i->q.length=d*es->(∀b,x=J b->∀(j:Nat) (v:Value),q[j]? =J v->w.cell? (b.add j)=J v)->(x=aa->d=0/\i=0)->i<d+n->d+n<=4611686018427387904->(d+n)*cH<=140737488355328->
   (execOp a.eval o).run P w=.ok (.value (.slice (J ⟨w.heap.size,0,aa⟩) (d+n) (grownCap w (d+n) i e))) (w.drew.alloc (.cells (q.toArray++r.toArray++Builtin.zeroCells zv.cells (grownCap w (d+n) i e-(d+n))) e)))
(hR:∀(R off f cap:Nat) (p:Array Value) (D:TypeId),a.eval s=.slice (J ⟨R,off,aa⟩) f cap->w.heap[R]? =J (.cells p D (0,0))->f+n<=cap->off+f*es+r.length<=p.size->r.all Value.oneCell'=O->
   (execOp a.eval o).run P w=.ok (.value (.slice (J ⟨R,off,aa⟩) (f+n) cap)) (w.setRow R (p.toList.take (off+f*es)++r++p.toList.drop (off+f*es+r.length)).toArray))
(hn:∀m' aj H' a' w',K aj H'->aT c m' aj H' a' w'->next a' w'):o.wp P a w next Qx1:=by
 unfold th at g;simp only[he,ht]at g;split at g
 ·cases g
 ·rename_i kK;have c1:es≠0:=λe=>kK (.inl e)
  have c2:zx1.length=es:=by
   rcases Nat.decEq zx1.length es with h|h
   ·exact absurd (.inr (.inl h)) kK
   ·exact h
  have c3:Y.all l8=O:=by
   cases I:Y.all l8 with
   |true=>rfl
   |false=>exact absurd (.inr (.inr I)) kK
  have Sn:zv.cells.size=es:=by rw[<-c2,<-jw];simp
  have yj:r.all Value.oneCell'=O:=bc.2 (Gr q1 c3);have CD:r.length=n*es:=by rw[<-q1.1,W]
  have fresh:∀(x:Option Addr) (d i:Nat) (U q:List Value) (dQ:FR) (Q:AH),aT c m dQ Q a w->a.eval s=.slice x d i->Vl m U q->U.length=d*es->
   (∀b,x=J b->∀(j:Nat) (v:Value),q[j]? =J v->w.cell? (b.add j)=J v)->(x=aa->d=0/\i=0)->i<d+n->d+n<=4611686018427387904->(d+n)*cH<=140737488355328->
   bu c.nt K o.dst (.v (.slice (J ⟨Q.n,0,J es⟩) (d+n) (d+n))) dQ (Q.push ⟨O,U++Y⟩)->o.wp P a w next Qx1:=by
   intro x d i U q dQ Q r2 A G9 hlo holds ko hg Hb G E;have hol:q.length=d*es:=by rw[<-G9.1,hlo]
   have L:=hG x d i q A hol holds ko hg Hb G;have rP:=grownCap_ge w (d+n) i e;obtain⟨g1,g2,g3⟩:=QN (es:=es) (k:=grownCap w (d+n) i e) (need:=d+n) G9 q1 (by rw[cy,hlo,W,oF]) Sn rP;unfold Oper.wp;rw[L];refine oC E (r2.drew.fresh (size:=grownCap w (d+n) i e*es) e g1 g2 g3) ?_ hn;exact MM r2.h.n (cq _) _ (cq _) rP
  split at g
  ·
   generalize A:a.eval s=y at N;cases N with
   |mV PD=>
    split at g
    ·omega
    ·split at g
     ·rename_i G;cases g;refine fresh PD 0 0 [] [] X H t A (.nil _) (by simp) (λb _ j v u=>by simp at u) (λ_=>⟨rfl,rfl⟩) (by omega) (by omega) (by simpa using G.1) ?_;simpa using E
     ·cases g
  ·rename_i id off br f sc;generalize A:a.eval s=y at N;have Zh:=N;cases N with
   |slice b7 k1 k2 k3 k4=>
    rename_i o' cap;split at g
    ·omega
    ·split at g
     ·cases g
     ·rename_i k z;split at g
      ·rename_i hc;obtain⟨F,hes,hfit,G,tq⟩:=hc;subst hes;split at g
       ·
        rename_i oz;split at g
        ·rename_i cs dA;cases g
         have hne:Y≠[]:=λe=>by
          rw[e]at W;have:=Wh Fz (Qv c1);simp at W;omega
         obtain⟨p,D,g1,g2,g3⟩:=t.LW z F dA q1 hne;have C:=k3 (by omega);subst C;have L:=hR (m.f id).bn ((m.f id).base+off) f cap p D A g1 (by omega) (by rw[i9 (m.f id).base];exact g2) yj;unfold Oper.wp;rw[L,Oper.upon_value];rw[i9 (m.f id).base];exact oC E g3 (.slice b7 oz k2 k3 k4) hn
        ·cases g
       ·rename_i oz;split at g
        ·rename_i TF;subst TF;cases g;obtain⟨p,D,fz,w1,w2,w3,w5,w6⟩:=t.h.cells id k z;rw[w5 F]at w1;have r1:=t.kill id;have Su:(H.set id aa).n=H.n:=rfl;by_cases gT:f+n<=cap
         ·
          have C:=k3 (by omega);simp only[sk]at C;subst C;have PQ:f*es+n*es<=cap*es:=by rw[<-oF];exact gN _ gT
          have L:=hR (m.f id).bn (m.f id).base f cap p D A w1 gT (by omega) yj
          have At:∀T B7,(H.set id aa).b T=J B7->(m.f T).bn≠(m.f id).bn:=by
           intro T B7 S;simp only[AH.set]at S;split at S
           ·cases S
           ·rename_i Vs;exact λe2=>t.h.apart id T k B7 z S (λe=>Vs e.symm) F e2.symm
          have dk:∀t2,cP X a.tmps t2≠J (m.f id).bn:=λt2 u9=>t.apart t2 _ id k u9 z rfl
          have r2:=r1.RR (B:=(m.f id).bn) (p.toList.take ((m.f id).base+f*es)++r++p.toList.drop ((m.f id).base+f*es+r.length)).toArray At dk (t.jB id k z F);have ie:=xI (xs:=p)
          have r3:=r2.push (l:=⟨(m.f id).bn,(m.f id).base,(m.f id).size⟩) (cells:=k.cells.take (f*es)++Y) (setRow_heap w _ p _ D (0,0) w1) (by simp;omega) (by simp;omega)
           (λj v u=>by
             by_cases an:j<f*es
             ·rw[fE (by simp;omega),Me an]at u;obtain⟨y,M,hV⟩:=w6 j v u;refine⟨y,?_,hV⟩;rw[HJ,gO,fE (by simp;omega),Me (by simp;omega)];simpa using M
             ·rw[f9 (by simp;omega)]at u;obtain⟨y,M,hV⟩:=q1.get u;refine⟨y,?_,hV⟩
              have TU:j-(k.cells.take (f*es)).length<r.length:=by
               rcases dS (j-(k.cells.take (f*es)).length) r.length with I|I
               ·exact I
               ·rw[BT I]at M;cases M
              simp only[tH]at TU;rw[HJ,gO,f9 (by simp;omega),fE (by simp;omega),<-M];congr 1;simp
              omega) At dk (t.jB id k z F) (t.mU id k z)
          unfold Oper.wp;rw[L,Oper.upon_value];refine oC E r3 ?_ hn;have qG:=m.zQ ⟨(m.f id).bn,(m.f id).base,(m.f id).size⟩
          have:=V.slice (m:=m.push ⟨(m.f id).bn,(m.f id).base,(m.f id).size⟩) (id:=m.n) (off:=0) (es:=es) (n:=f+n) (c:=f+n) (o:=(m.f id).base) (cap:=cap) (by simp[Mu.push])
           (cq _) gT (λ_=>by rw[qG];simp) (by rw[qG];simpa using k4)
          rw[qG,t.h.n]at this;exact this
         ·obtain⟨q,q3,q4⟩:=((t.h.row z).take (f*es)).list;refine fresh (J ⟨(m.f id).bn,o',aa⟩) f cap (k.cells.take (f*es)) q X (H.set id aa) r1 A q3 (by simp;omega) ?_ (λe=>by cases e) (by omega) (by omega) G E;intro b Lp j v u;cases Lp;by_cases rW:0<cap
          ·have C:=k3 rW;simp only[sk]at C;subst C;exact q4 j v u
          ·have fo:f=0:=by omega
           subst fo;have:q=[]:=na (by rw[<-q3.1];simp);rw[this]at u;simp at u
        ·cases g
      ·cases g
  ·cases g
end
end Go.Am
