import Derived.Test.YtplemekcclpaoaaGreatDoorAmI
namespace Go.Am
section
variable {c:Ctx}{m:Mu}{fr:FR}{H:AH}{a:Act}{w:World}{P:Program}{K:FR→AH→Prop}{next:Act→World→Prop}
variable{news:List Value}
theorem zmd{olds oldy newy:List Value}{zv:Value}{es k need:Nat}(h1:Vl m olds oldy)(h2:Vl m news newy)(hl:(olds++news).length=need*es)(hz:zv.cells.size=es)(hk:need≤k):
 k*es≤(oldy.toArray++newy.toArray++Builtin.zeroCells zv.cells (k-need)).size∧(olds++news).length≤k*es∧
  ∀(i:Nat) (v:Value),(olds++news)[i]? =some v→∃c,(oldy.toArray++newy.toArray++Builtin.zeroCells zv.cells (k-need))[i]? =some c∧V m v c:=by
 have hv:=h1.append h2;have hkk:need*es+(k-need)*es=k*es:=by rw[←Nat.add_mul];congr 1;omega
 refine⟨?_,?_,fun i v hi=>?_⟩
 ·have:=hv.1;simp only[Array.size_append,List.size_toArray,size_zeroCells,hz];simp only[List.length_append]at this hl;omega
 ·rw[hl];exact Nat.mul_le_mul_right _ hk
 ·obtain⟨y,hy,hV⟩:=hv.get hi;refine⟨y,?_,hV⟩;rw[←Array.getElem?_toList,Array.toList_append]
  have hlt:i<(oldy++newy).length:=by
   rcases Nat.lt_or_ge i (oldy++newy).length with h|h
   ·exact h
   ·rw[List.getElem?_eq_none h]at hy;cases hy
  rw[List.getElem?_append_left (by simpa using hlt)];simpa using hy
theorem zxu{t ty e:TypeId}{i:TypeInfo}{z:Value}(ht:P.underlying t=some (.slice e))(hi:P.info? e=some i)(hz:i.zero=some z)
{s0:Option Addr}{sLen sCap n cp:Nat}{olds:List Value}{ad:Addr}(hlo:olds.length=sLen*i.size)(holds:∀b,s0=some b→∀(j:Nat) (v:Value),olds[j]? =some v→w.cell? (b.add j)=some v)(hs0:s0=none→sLen=0∧sCap=0)
(hl:news.length=n*i.size)(hnews:∀(j:Nat) (v:Value),news[j]? =some v→w.cell? (ad.add j)=some v)(h0:0<n)
(hg:sCap<sLen+n)(h63:sLen+n≤4611686018427387904)(hb:(sLen+n)*i.bytes≤140737488355328):
 (Builtin.append_ #[t,t] ty #[.slice s0 sLen sCap,.slice (some ad) n cp]).run P w=
   .ok (.slice (some ⟨w.heap.size,0,none⟩) (sLen+n) (grownCap w (sLen+n) sCap e)) (w.drew.alloc (.cells (olds.toArray++news.toArray++Builtin.zeroCells z.cells (grownCap w (sLen+n) sCap e-(sLen+n))) e)):=by
 cases s0 with
 |none=>
  obtain⟨rfl,rfl⟩:=hs0 rfl;have ho:olds=[]:=List.eq_nil_of_length_eq_zero (by simpa using hlo);subst ho;simp only[Nat.zero_add]at hb h63⊢;have hr:=run_append_nil (P:=P) w t ty e i z ht hi hz ad n cp news hl hnews h0 (by omega) (by omega);rw[hr];simp
 |some b=>exact run_append_grow (P:=P) w t ty e i z ht hi hz b sLen sCap olds hlo (holds b rfl) ad n cp news hl hnews hg (by omega) (growslice_fits hg hb)
theorem zr0{o:Oper}{args:Array Operand}{tys:Array TypeId}{Q:Exit→Act→World→Prop}(ho:o.op=.call ⟨.builtin .append,args,tys⟩)
(h:match args.toList,tys.toList with
 |[s,x],[t,t']=>if t=t' then match mat fr H s with
  |some (sv,fr',H')=>match zdS P t fr' H' x with
   |some (new,n)=>match zfj P t sv new n H' with
    |some (v,H'')=>zar c.nt K o.dst (.v v) fr' H''
    |none=>False
   |none=>False
  |none=>False
  else False
 |_,_=>False)(r:RelS c m fr H a w)
(hn:∀m' fr' H' a' w',K fr' H'→RelS c m' fr' H' a' w'→next a' w'):o.wp P a w next Q:=by
 split at h
 ·rename_i s x t t' hargs htys;split at h
  ·rename_i htt;subst htt;split at h
   ·rename_i sv fr' H' hm;split at h
    ·rename_i news n hsrc;split at h
     ·rename_i v H'' happ;obtain⟨m',hle,r',hsv⟩:=zmo r hm;unfold zfj at happ;split at happ
      ·cases happ
      ·rename_i e he;split at happ
       ·cases happ
       ·rename_i g es by_ z ht;obtain⟨hnl,ad,cp,hx,hcells⟩:=zhE r' he ht hsrc;obtain⟨i,zv,hi,hz,hzc,hsz,hby,_,hs⟩:=zbp (w:=w) ht;split at happ
        ·cases happ
        ·rename_i hc0;have c1:es≠0:=fun e=>hc0 (.inl e)
         have c2:z.length=es:=by
          rcases Nat.decEq z.length es with h|h
          ·exact absurd (.inr (.inl h)) hc0
          ·exact h
         have c3:news.all zeb=true:=by
          cases hh:news.all zeb with
          |true=>rfl
          |false=>exact absurd (.inr (.inr hh)) hc0
         have hzsz:zv.cells.size=es:=by rw[←c2,←hzc];simp
         have hu:=zb6 he
         have hexec:∀(y:Value) (w':World),(Builtin.append_ #[t,t] o.type #[a.eval s,a.eval x]).run P w=.ok y w'→(execOp a.eval o).run P w=.ok (.value y) w':=by
          intro y w' hr;have ea:args= #[s,x]:=by apply Array.ext';simpa using hargs
          have et:tys= #[t,t]:=by apply Array.ext';simpa using htys
          simp only[execOp,ho,resolve,ea,et,Sem.run_bind,Sem.run_pure,Result.andThen_ok,invoke,builtin,List.map_toArray,List.map_cons,List.map_nil,hr]
         have fresh:∀(s0:Option Addr) (sLen sCap:Nat) (olds oldy:List Value) (fr2:FR) (H2:AH),RelS c m' fr2 H2 a w→a.eval s=.slice s0 sLen sCap→Vl m' olds oldy→olds.length=sLen*es→
          (∀b,s0=some b→∀(j:Nat) (v:Value),oldy[j]? =some v→w.cell? (b.add j)=some v)→(s0=none→sLen=0∧sCap=0)→0<n→sCap<sLen+n→sLen+n≤4611686018427387904→(sLen+n)*by_≤140737488355328→
          zar c.nt K o.dst (.v (.slice (some ⟨H2.n,0,some es⟩) (sLen+n) (sLen+n))) fr2 (H2.push ⟨true,olds++news⟩)→o.wp P a w next Q:=by
          intro s0 sLen sCap olds oldy fr2 H2 r2 hse hvo hlo holds hs0 h0 hg h63 hb hK;obtain⟨b,o',ys,rfl,q1,q2⟩:=hcells h0;have hyl:ys.length=n*i.size:=by rw[←q1.1,hnl,hsz]
          have hol:oldy.length=sLen*i.size:=by rw[←hvo.1,hlo,hsz]
          have hr:=zxu (P:=P) (w:=w) (ty:=o.type) hu hi hz (s0:=s0) (cp:=cp) hol holds hs0 hyl q2 h0 hg h63 (by rw[hby];exact hb);have hgc:=grownCap_ge w (sLen+n) sCap e;obtain⟨g1,g2,g3⟩:=zmd (es:=es) (k:=grownCap w (sLen+n) sCap e) (need:=sLen+n) hvo q1 (by rw[List.length_append,hlo,hnl,Nat.add_mul]) hzsz hgc;unfold Oper.wp;rw[hexec _ _ (by rw[hse,hx];exact hr)];refine zeJ hK (r2.drew.fresh (size:=grownCap w (sLen+n) sCap e*es) e g1 g2 g3) ?_ hn;exact zm4 r2.h.n (Nat.le_refl _) _ (Nat.le_refl _) hgc
         split at happ
         ·
          generalize hse:a.eval s=y at hsv;cases hsv with
          |nils ad0=>
           split at happ
           ·cases happ;rename_i hn0;subst hn0;unfold Oper.wp;rw[hexec _ _ (by rw[hse,hx];exact zj1 t o.type e i hu hi _ _ _ _ _ (Nat.le_refl _))];exact zeJ h r' (.nils ad0) hn
           ·rename_i hn0;split at happ
            ·rename_i hb;cases happ;refine fresh ad0 0 0 [] [] fr' H' r' hse (.nil _) (by simp) (fun b _ j v hj=>by simp at hj) (fun _=>⟨rfl,rfl⟩) (by omega) (by omega) (by omega) (by simpa using hb.1) ?_;simpa using h
            ·cases happ
         ·rename_i id off es' sl sc;generalize hse:a.eval s=y at hsv;have hsv0:=hsv;cases hsv with
          |slice hid k1 k2 k3 k4=>
           rename_i o' cap;split at happ
           ·cases happ;rename_i hn0;subst hn0;unfold Oper.wp;rw[hexec _ _ (by rw[hse,hx];exact zj1 t o.type e i hu hi _ _ _ _ _ (by omega))];exact zeJ h r' hsv0 hn
           ·rename_i hn0;split at happ
            ·cases happ
            ·rename_i k hk;split at happ
             ·rename_i hc;obtain⟨hrw,hes,hfit,hb,h62⟩:=hc;subst hes;have hnpos:0<n:=by omega
              split at happ
              ·
               rename_i hroom;split at happ
               ·rename_i cs hput;cases happ;obtain⟨b,ob,ys,rfl,q1,q2⟩:=hcells hnpos
                have hne:news≠[]:=fun e=>by
                 rw[e]at hnl;have:=Nat.mul_pos hnpos (Nat.pos_of_ne_zero c1);simp at hnl;omega
                obtain⟨cur,e',g1,g2,g3⟩:=r'.heapset hk hrw hput q1 hne;have ho':=k3 (by omega);subst ho'
                have hr:=zjC (P:=P) (w:=w) t o.type e i hu hi (m'.f id).blk ((m'.f id).base+off) sl cap cur e' g1 ⟨b,ob,none⟩ n cp ys (by rw[←q1.1,hnl,hsz]) q2 (zhP q1 c3) (by omega)
                 (by rw[hsz];rw[Nat.add_assoc (m'.f id).base];exact g2)
                unfold Oper.wp;rw[hexec _ _ (by rw[hse,hx];exact hr),Oper.upon_value];rw[hsz,Nat.add_assoc (m'.f id).base];exact zeJ h g3 (.slice hid hroom k2 k3 k4) hn
               ·cases happ
              ·rename_i hroom;split at happ
               ·rename_i hoff;subst hoff;cases happ;have hvo:Vl m' (k.cells.take (sl*es)) (k.cells.take (sl*es))∨True:=.inr trivial;obtain⟨cur,e',fz,w1,w2,w3,w5,w6⟩:=r'.h.cells id k hk;rw[w5 hrw]at w1;have r1:=r'.kill id;have hset:(H'.set id none).n=H'.n:=rfl;by_cases hin:sl+n≤cap
                ·
                 obtain⟨b,ob,ys,rfl,q1,q2⟩:=hcells hnpos;have ho':=k3 (by omega);simp only[Nat.add_zero]at ho';subst ho';have hyl:ys.length=n*es:=by rw[←q1.1,hnl]
                 have hle2:sl*es+n*es≤cap*es:=by rw[←Nat.add_mul];exact Nat.mul_le_mul_right _ hin
                 have hr:=zjC (P:=P) (w:=w) t o.type e i hu hi (m'.f id).blk (m'.f id).base sl cap cur e' w1 ⟨b,ob,none⟩ n cp ys (by rw[hyl,hsz]) q2 (zhP q1 c3) hin
                  (by rw[hsz];omega)
                 have hfree:∀i2 k2',(H'.set id none).b i2=some k2'→(m'.f i2).blk≠(m'.f id).blk:=by
                  intro i2 k2' hi2;simp only[AH.set]at hi2;split at hi2
                  ·cases hi2
                  ·rename_i hne2;exact fun e2=>r'.h.apart id i2 k k2' hk hi2 (fun e=>hne2 e.symm) hrw e2.symm
                 have hown:∀t2,za4 fr' a.tmps t2≠some (m'.f id).blk:=fun t2 ht2=>r'.apart t2 _ id k ht2 hk rfl
                 have r2:=r1.write_free (B:=(m'.f id).blk) (cur.toList.take ((m'.f id).base+sl*es)++ys++cur.toList.drop ((m'.f id).base+sl*es+ys.length)).toArray hfree hown (r'.rwA id k hk hrw);have hcl:=Array.length_toList (xs:=cur)
                 have r3:=r2.push (l:=⟨(m'.f id).blk,(m'.f id).base,(m'.f id).size⟩) (cells:=k.cells.take (sl*es)++news) (setRow_heap w _ cur _ e' (0,0) w1) (by simp;omega) (by simp;omega)
                  (fun j v hj=>by
                    by_cases hj1:j<sl*es
                    ·rw[List.getElem?_append_left (by simp;omega),List.getElem?_take_of_lt hj1]at hj;obtain⟨y,hy,hV⟩:=w6 j v hj;refine⟨y,?_,hV⟩;rw[List.getElem?_toArray,List.append_assoc,List.getElem?_append_left (by simp;omega),List.getElem?_take_of_lt (by simp;omega)];simpa using hy
                    ·rw[List.getElem?_append_right (by simp;omega)]at hj;obtain⟨y,hy,hV⟩:=q1.get hj;refine⟨y,?_,hV⟩
                     have hjl:j-(k.cells.take (sl*es)).length<ys.length:=by
                      rcases Nat.lt_or_ge (j-(k.cells.take (sl*es)).length) ys.length with hh|hh
                      ·exact hh
                      ·rw[List.getElem?_eq_none hh]at hy;cases hy
                     simp only[List.length_take]at hjl;rw[List.getElem?_toArray,List.append_assoc,List.getElem?_append_right (by simp;omega),List.getElem?_append_left (by simp;omega),←hy];congr 1;simp
                     omega) hfree hown (r'.rwA id k hk hrw) (r'.srcS id k hk)
                 unfold Oper.wp;rw[hexec _ _ (by rw[hse,hx];exact hr),Oper.upon_value,hsz];refine zeJ h r3 ?_ hn;have hf2:=m'.push_f ⟨(m'.f id).blk,(m'.f id).base,(m'.f id).size⟩
                 have:=V.slice (m:=m'.push ⟨(m'.f id).blk,(m'.f id).base,(m'.f id).size⟩) (id:=m'.n) (off:=0) (es:=es) (n:=sl+n) (c:=sl+n) (o:=(m'.f id).base) (cap:=cap) (by simp[Mu.push])
                  (Nat.le_refl _) hin (fun _=>by rw[hf2];simp) (by rw[hf2];simpa using k4)
                 rw[hf2,r'.h.n]at this;exact this
                ·obtain⟨oldy,q3,q4⟩:=((r'.h.row hk).take (sl*es)).list;refine fresh (some ⟨(m'.f id).blk,o',none⟩) sl cap (k.cells.take (sl*es)) oldy fr' (H'.set id none) r1 hse q3 (by simp;omega) ?_ (fun e=>by cases e) hnpos (by omega) (by omega) hb h;intro b hbb j v hj;cases hbb;by_cases hcap:0<cap
                 ·have ho':=k3 hcap;simp only[Nat.add_zero]at ho';subst ho';exact q4 j v hj
                 ·have hsl:sl=0:=by omega
                  subst hsl;have:oldy=[]:=List.eq_nil_of_length_eq_zero (by rw[←q3.1];simp);rw[this]at hj;simp at hj
               ·cases happ
             ·cases happ
         ·cases happ
     ·cases h
    ·cases h
   ·cases h
  ·cases h
 ·cases h
theorem ztl{o:Oper}{Q:Exit→Act→World→Prop}{t e:TypeId}{s:Operand}{sv v:Value}{ys:List Value}{n:Nat}{H2':AH}{zv:Value}{es by_:Nat}{g:Bool}{z:List Value}
(he:zaw P t=some e)(ht:tsz P e=some (g,es,by_,z))(hzc:zv.cells.toList=z)(hnpos:0<n)(hnl:news.length=n*es)(q1:Vl m news ys)
(hsv:V m sv (a.eval s))(happ:zfj P t sv news n H=some (v,H2'))(hK:zar c.nt K o.dst (.v v) fr H2')(r':RelS c m fr H a w)
(hG:∀(s0:Option Addr) (sLen sCap:Nat) (oldy:List Value),a.eval s=.slice s0 sLen sCap→oldy.length=sLen*es→(∀b,s0=some b→∀(j:Nat) (v:Value),oldy[j]? =some v→w.cell? (b.add j)=some v)→(s0=none→sLen=0∧sCap=0)→sCap<sLen+n→sLen+n≤4611686018427387904→(sLen+n)*by_≤140737488355328→
   (execOp a.eval o).run P w=.ok (.value (.slice (some ⟨w.heap.size,0,none⟩) (sLen+n) (grownCap w (sLen+n) sCap e))) (w.drew.alloc (.cells (oldy.toArray++ys.toArray++Builtin.zeroCells zv.cells (grownCap w (sLen+n) sCap e-(sLen+n))) e)))
(hR:∀(blk off sl cap:Nat) (cur:Array Value) (e':TypeId),a.eval s=.slice (some ⟨blk,off,none⟩) sl cap→w.heap[blk]? =some (.cells cur e' (0,0))→sl+n≤cap→off+sl*es+ys.length≤cur.size→ys.all Value.oneCell'=true→
   (execOp a.eval o).run P w=.ok (.value (.slice (some ⟨blk,off,none⟩) (sl+n) cap)) (w.setRow blk (cur.toList.take (off+sl*es)++ys++cur.toList.drop (off+sl*es+ys.length)).toArray))
(hn:∀m' fr' H' a' w',K fr' H'→RelS c m' fr' H' a' w'→next a' w'):o.wp P a w next Q:=by
 unfold zfj at happ;simp only[he,ht]at happ;split at happ
 ·cases happ
 ·rename_i hc0;have c1:es≠0:=fun e=>hc0 (.inl e)
  have c2:z.length=es:=by
   rcases Nat.decEq z.length es with h|h
   ·exact absurd (.inr (.inl h)) hc0
   ·exact h
  have c3:news.all zeb=true:=by
   cases hh:news.all zeb with
   |true=>rfl
   |false=>exact absurd (.inr (.inr hh)) hc0
  have hzsz:zv.cells.size=es:=by rw[←c2,←hzc];simp
  have hone:ys.all Value.oneCell'=true:=List.all_eq_true.2 (zhP q1 c3);have hyl:ys.length=n*es:=by rw[←q1.1,hnl]
  have fresh:∀(s0:Option Addr) (sLen sCap:Nat) (olds oldy:List Value) (fr2:FR) (H2:AH),RelS c m fr2 H2 a w→a.eval s=.slice s0 sLen sCap→Vl m olds oldy→olds.length=sLen*es→
   (∀b,s0=some b→∀(j:Nat) (v:Value),oldy[j]? =some v→w.cell? (b.add j)=some v)→(s0=none→sLen=0∧sCap=0)→sCap<sLen+n→sLen+n≤4611686018427387904→(sLen+n)*by_≤140737488355328→
   zar c.nt K o.dst (.v (.slice (some ⟨H2.n,0,some es⟩) (sLen+n) (sLen+n))) fr2 (H2.push ⟨true,olds++news⟩)→o.wp P a w next Q:=by
   intro s0 sLen sCap olds oldy fr2 H2 r2 hse hvo hlo holds hs0 hg h63 hb hK;have hol:oldy.length=sLen*es:=by rw[←hvo.1,hlo]
   have hr:=hG s0 sLen sCap oldy hse hol holds hs0 hg h63 hb;have hgc:=grownCap_ge w (sLen+n) sCap e;obtain⟨g1,g2,g3⟩:=zmd (es:=es) (k:=grownCap w (sLen+n) sCap e) (need:=sLen+n) hvo q1 (by rw[List.length_append,hlo,hnl,Nat.add_mul]) hzsz hgc;unfold Oper.wp;rw[hr];refine zeJ hK (r2.drew.fresh (size:=grownCap w (sLen+n) sCap e*es) e g1 g2 g3) ?_ hn;exact zm4 r2.h.n (Nat.le_refl _) _ (Nat.le_refl _) hgc
  split at happ
  ·
   generalize hse:a.eval s=y at hsv;cases hsv with
   |nils ad0=>
    split at happ
    ·omega
    ·split at happ
     ·rename_i hb;cases happ;refine fresh ad0 0 0 [] [] fr H r' hse (.nil _) (by simp) (fun b _ j v hj=>by simp at hj) (fun _=>⟨rfl,rfl⟩) (by omega) (by omega) (by simpa using hb.1) ?_;simpa using hK
     ·cases happ
  ·rename_i id off es' sl sc;generalize hse:a.eval s=y at hsv;have hsv0:=hsv;cases hsv with
   |slice hid k1 k2 k3 k4=>
    rename_i o' cap;split at happ
    ·omega
    ·split at happ
     ·cases happ
     ·rename_i k hk;split at happ
      ·rename_i hc;obtain⟨hrw,hes,hfit,hb,h62⟩:=hc;subst hes;split at happ
       ·
        rename_i hroom;split at happ
        ·rename_i cs hput;cases happ
         have hne:news≠[]:=fun e=>by
          rw[e]at hnl;have:=Nat.mul_pos hnpos (Nat.pos_of_ne_zero c1);simp at hnl;omega
         obtain⟨cur,e',g1,g2,g3⟩:=r'.heapset hk hrw hput q1 hne;have ho':=k3 (by omega);subst ho';have hr:=hR (m.f id).blk ((m.f id).base+off) sl cap cur e' hse g1 (by omega) (by rw[Nat.add_assoc (m.f id).base];exact g2) hone;unfold Oper.wp;rw[hr,Oper.upon_value];rw[Nat.add_assoc (m.f id).base];exact zeJ hK g3 (.slice hid hroom k2 k3 k4) hn
        ·cases happ
       ·rename_i hroom;split at happ
        ·rename_i hoff;subst hoff;cases happ;obtain⟨cur,e',fz,w1,w2,w3,w5,w6⟩:=r'.h.cells id k hk;rw[w5 hrw]at w1;have r1:=r'.kill id;have hset:(H.set id none).n=H.n:=rfl;by_cases hin:sl+n≤cap
         ·
          have ho':=k3 (by omega);simp only[Nat.add_zero]at ho';subst ho';have hle2:sl*es+n*es≤cap*es:=by rw[←Nat.add_mul];exact Nat.mul_le_mul_right _ hin
          have hr:=hR (m.f id).blk (m.f id).base sl cap cur e' hse w1 hin (by omega) hone
          have hfree:∀i2 k2',(H.set id none).b i2=some k2'→(m.f i2).blk≠(m.f id).blk:=by
           intro i2 k2' hi2;simp only[AH.set]at hi2;split at hi2
           ·cases hi2
           ·rename_i hne2;exact fun e2=>r'.h.apart id i2 k k2' hk hi2 (fun e=>hne2 e.symm) hrw e2.symm
          have hown:∀t2,za4 fr a.tmps t2≠some (m.f id).blk:=fun t2 ht2=>r'.apart t2 _ id k ht2 hk rfl
          have r2:=r1.write_free (B:=(m.f id).blk) (cur.toList.take ((m.f id).base+sl*es)++ys++cur.toList.drop ((m.f id).base+sl*es+ys.length)).toArray hfree hown (r'.rwA id k hk hrw);have hcl:=Array.length_toList (xs:=cur)
          have r3:=r2.push (l:=⟨(m.f id).blk,(m.f id).base,(m.f id).size⟩) (cells:=k.cells.take (sl*es)++news) (setRow_heap w _ cur _ e' (0,0) w1) (by simp;omega) (by simp;omega)
           (fun j v hj=>by
             by_cases hj1:j<sl*es
             ·rw[List.getElem?_append_left (by simp;omega),List.getElem?_take_of_lt hj1]at hj;obtain⟨y,hy,hV⟩:=w6 j v hj;refine⟨y,?_,hV⟩;rw[List.getElem?_toArray,List.append_assoc,List.getElem?_append_left (by simp;omega),List.getElem?_take_of_lt (by simp;omega)];simpa using hy
             ·rw[List.getElem?_append_right (by simp;omega)]at hj;obtain⟨y,hy,hV⟩:=q1.get hj;refine⟨y,?_,hV⟩
              have hjl:j-(k.cells.take (sl*es)).length<ys.length:=by
               rcases Nat.lt_or_ge (j-(k.cells.take (sl*es)).length) ys.length with hh|hh
               ·exact hh
               ·rw[List.getElem?_eq_none hh]at hy;cases hy
              simp only[List.length_take]at hjl;rw[List.getElem?_toArray,List.append_assoc,List.getElem?_append_right (by simp;omega),List.getElem?_append_left (by simp;omega),←hy];congr 1;simp
              omega) hfree hown (r'.rwA id k hk hrw) (r'.srcS id k hk)
          unfold Oper.wp;rw[hr,Oper.upon_value];refine zeJ hK r3 ?_ hn;have hf2:=m.push_f ⟨(m.f id).blk,(m.f id).base,(m.f id).size⟩
          have:=V.slice (m:=m.push ⟨(m.f id).blk,(m.f id).base,(m.f id).size⟩) (id:=m.n) (off:=0) (es:=es) (n:=sl+n) (c:=sl+n) (o:=(m.f id).base) (cap:=cap) (by simp[Mu.push])
           (Nat.le_refl _) hin (fun _=>by rw[hf2];simp) (by rw[hf2];simpa using k4)
          rw[hf2,r'.h.n]at this;exact this
         ·obtain⟨oldy,q3,q4⟩:=((r'.h.row hk).take (sl*es)).list;refine fresh (some ⟨(m.f id).blk,o',none⟩) sl cap (k.cells.take (sl*es)) oldy fr (H.set id none) r1 hse q3 (by simp;omega) ?_ (fun e=>by cases e) (by omega) (by omega) hb hK;intro b hbb j v hj;cases hbb;by_cases hcap:0<cap
          ·have ho':=k3 hcap;simp only[Nat.add_zero]at ho';subst ho';exact q4 j v hj
          ·have hsl:sl=0:=by omega
           subst hsl;have:oldy=[]:=List.eq_nil_of_length_eq_zero (by rw[←q3.1];simp);rw[this]at hj;simp at hj
        ·cases happ
      ·cases happ
  ·cases happ
end
end Go.Am
