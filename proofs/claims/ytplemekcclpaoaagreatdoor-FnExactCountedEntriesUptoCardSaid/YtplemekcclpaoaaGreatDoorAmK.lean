import Derived.Test.YtplemekcclpaoaaGreatDoorAmJ
import Derived.Tactics
import Derived.Laws.BytesString
import Derived.Lib.AppendZerosOnto
namespace Go.Am
section
variable {c:Ctx}{m:Mu}{fr:FR}{H:AH}{a:Act}{w:World}{P:Program}{K:FR→AH→Prop}{next:Act→World→Prop}
variable{Q:Exit→Act→World→Prop}{o:Oper}{ops:Array Oper}
theorem zoG{x:Operand}(ho:o.op=.move x∨o.op=.assign x)
(h:match rda fr x with
 |some (.lp s off)=>zar c.nt K o.dst (.lp s off) fr H
 |_=>zaB P c.nt o K fr H)(r:RelS c m fr H a w)
(hn:∀m' fr' H' a' w',K fr' H'→RelS c m' fr' H' a' w'→next a' w'):o.wp P a w next Q:=by
 split at h
 ·rename_i s off hx;have hv:=zdP r hx;have hrun:(execOp a.eval o).run P w=.ok (.value (a.eval x)) w:=by rcases ho with ho|ho<;>simp[execOp,ho]
  unfold Oper.wp;rw[hrun];exact ztZ h r hv hn
 ·exact zhn h r hn
theorem zu3{args:Array Operand}{tys:Array TypeId}(ho:o.op=.call ⟨.builtin .copy,args,tys⟩)
(h:match args.toList,tys.toList with
 |[x,y],[t,_]=>match zaw P t,rdv fr x,zdS P t fr H y with
  |some e,some (.slice (some ⟨id,off,some es'⟩) n cc),some (cs,l)=>match tsz P e,H.b id with
   |some (_,es,_,_),some k=>if n≤cc∧es=es'∧k.rw=true∧es≠0∧0<min l n∧(cs.take (min l n*es)).all zeb=true then
    match zbQ k.cells off (cs.take (min l n*es))with
    |some cs'=>zar c.nt K o.dst (.v (.int .i64 (min l n:Nat))) fr (H.set id (some ⟨true,cs'⟩))
    |none=>False
    else False
   |_,_=>False
  |_,_,_=>False
 |_,_=>False)(r:RelS c m fr H a w)
(hn:∀m' fr' H' a' w',K fr' H'→RelS c m' fr' H' a' w'→next a' w'):o.wp P a w next Q:=by
 split at h
 ·rename_i x y t t' hargs htys;split at h
  ·rename_i e id off es' n cc cs l he hx hsrc;split at h
   ·rename_i g es by_ z k ht hk;split at h
    ·rename_i hcd;obtain⟨c2,c3,c4,c5,c6,c7⟩:=hcd;subst c3;split at h
     ·rename_i cs' hput;obtain⟨i,zv,hi,hz,hzc,hsz,hby,_,hs⟩:=zbp (w:=w) ht;have hu:=zb6 he;have hv:=zaT r hx;have ea:args= #[x,y]:=by apply Array.ext';simpa using hargs
      have et:tys= #[t,t']:=by apply Array.ext';simpa using htys
      obtain⟨hlen,ad,cap,hzy,hc⟩:=zhE r he ht hsrc;obtain⟨b,o',ys,hb,q1,q2⟩:=hc (by omega);subst hb;have hq:min l n*es≤cs.length:=by rw[hlen];exact Nat.mul_le_mul_right _ (Nat.min_le_left _ _)
      have hrow:Vl m (cs.take (min l n*es)) (ys.take (min l n*es)):=q1.take _;have hyl:(ys.take (min l n*es)).length=min l n*es:=by rw[List.length_take];have:=q1.1;omega
      have hne:cs.take (min l n*es)≠[]:=fun e0=>by
       have e1:(cs.take (min l n*es)).length=0:=by rw[e0];rfl
       have:=Nat.mul_pos c6 (Nat.pos_of_ne_zero c5);rw[List.length_take,Nat.min_eq_left hq]at e1;omega
      obtain⟨cur,e',g1,g2,g3⟩:=r.heapset hk c4 hput hrow hne;generalize hw0:a.eval x=u at hv;cases hv with
      |slice hid k1 k2 k3 k4=>
       rename_i o'' cap';have ho':=k3 (by omega);subst ho';have hst:=run_storeCells_at P (m.f id).blk ((m.f id).base+off) e' (ys.take (min l n*es)) 0 cur w g1 (by simpa[Nat.add_assoc]using g2) (zhP hrow c7);simp only[Nat.add_zero]at hst
       have hfc:=run_firstCells_some (P:=P) w es (min l n) ⟨b,o',none⟩ l cap (ys.take (min l n*es)) hyl fun j v hj=>q2 j v (by
        rw[List.getElem?_take]at hj;split at hj
        ·exact hj
        ·cases hj)
       have hrun:(execOp a.eval o).run P w=.ok (.value (goInt ((min l n:Nat):Int))) (w.setRow (m.f id).blk (cur.toList.take ((m.f id).base+off)++ys.take (min l n*es)++cur.toList.drop ((m.f id).base+off+(ys.take (min l n*es)).length)).toArray):=by
        simp[execOp,ho,resolve,ea,et,invoke,builtin,Builtin.copy_,zb0 hu,hw0,hzy,Builtin.lenOf,sizeOf,typeInfo,hi,hsz,hfc,hst]
       unfold Oper.wp;rw[hrun];exact zeJ h g3 (.int _ _) hn
     ·cases h
    ·cases h
   ·cases h
  ·cases h
 ·cases h
def gop(P:Program)(nt:Nat)(pre:List (Option Tmp))(o:Oper)(K:FR→AH→Prop)(fr:FR)(H:AH):Prop:=
 match o.guard with
 |none=>aop P nt o K fr H
 |some (j,b)=>match zeD fr pre j with
  |some y=>if y=some b then aop P nt o K fr H else zar nt K o.dst .skip fr H
  |none=>False
def zlp(P:Program)(nt:Nat)(pre:List (Option Tmp))(o:Oper)(K:FR→AH→Prop)(fr:FR)(H:AH):Prop:=
 match o.guard with
 |none=>aop P nt o K fr H∨ahp P nt o K fr H
 |some (j,b)=>match zeD fr pre j with
  |some y=>if y=some b then aop P nt o K fr H∨ahp P nt o K fr H else zar nt K o.dst .skip fr H
  |none=>False
theorem zp8(pre:List (Option Tmp))(o:Oper)(l:List Oper)(nt:Nat):zeh P nt pre (o::l) K fr H=zlp P nt pre o (zeh P nt pre l K) fr H:=rfl
theorem zs2{c:Ctx}{m:Mu}{fr:FR}{H:AH}{a:Act}{w:World}{P:Program}{K:FR→AH→Prop}{next:Act→World→Prop}{args:Array Operand}{tys:Array TypeId}(ho:o.op=.call ⟨.builtin .append,args,tys⟩){s x:Operand}{t t' e:TypeId}(hargs:args.toList=[s,x])(htys:tys.toList=[t,t']){n:Int}
(he:zaw P t=some e)(hx:rdv fr x=some (.int .i64 n)){g:Bool}{es by_:Nat}{z:List Value}(ht:tsz P e=some (g,es,by_,z))(h2:(zde P t').isSome=true)(c1:0<n)(c2:by_*n≤140737488355328)(c3:n≤4611686018427387904)(c6:es≠0)(c5:z.length=es)(c7:z.all zai=true)
{sv v:Value}{H':AH}(hs:rdv fr s=some sv)(happ:zfj P t sv (List.replicate n.toNat z).flatten n.toNat H=some (v,H'))(hK:zar c.nt K o.dst (.v v) fr H')(r:RelS c m fr H a w)
(hn:∀m' fr' H' a' w',K fr' H'→RelS c m' fr' H' a' w'→next a' w'):o.wp P a w next Q:=by
 obtain⟨kn,hk⟩:=Option.isSome_iff_exists.1 h2
 have hkn:P.underlying t'=some (.int kn):=by
  unfold zde at hk;split at hk
  ·rename_i hu;cases hk;exact hu
  ·cases hk
 obtain⟨i,zv,hi,hz,hzc,hsz,hby,_,hs'⟩:=zbp (w:=w) ht;have hu:=zb6 he;have e1:=zgX (zaT r hx);have hv:=zaT r hs;have ea:args= #[s,x]:=by apply Array.ext';simpa using hargs
 have et:tys= #[t,t']:=by apply Array.ext';simpa using htys
 obtain⟨k,rfl⟩:=Int.eq_ofNat_of_zero_le (show 0≤n by omega);rw[Int.toNat_natCast]at happ;have hzs:zv.cells=z.toArray:=by rw[←hzc]
 have hbk:k*i.bytes≤140737488355328:=by
  rw[hby,Nat.mul_comm];have:((by_*k:Nat):Int)≤140737488355328:=by rw[Int.natCast_mul];exact c2
  omega
 have hzl:(Builtin.zeroCells zv.cells k).toList=(List.replicate k z).flatten:=by
  unfold Builtin.zeroCells;rw[hzs];have:=zfD z k;simpa using this
 have hza:Builtin.zeroCells zv.cells k=((List.replicate k z).flatten).toArray:=by rw[←hzl]
 have hall:∀x,x∈(List.replicate k z).flatten→x∈z:=fun x hx=>by
  rw[List.mem_flatten]at hx;obtain⟨l',hl',hxl⟩:=hx
  rwa [(List.mem_replicate.1 hl').2]at hxl
 have hrow:Vl m ((List.replicate k z).flatten) ((List.replicate k z).flatten):=zfw (List.all_eq_true.2 fun x hx=>List.all_eq_true.1 c7 x (hall x hx));have hlen:(List.replicate k z).flatten.length=k*es:=by rw[List.length_flatten];simp[c5]
 have hkw:IntKind.i64.wrap (k:Int)=k:=by rw[IntKind.wrap_i64];omega
 refine ztl he ht hzc (by omega) hlen hrow hv happ hK r ?_ ?_ hn
 ·intro s0 sLen sCap oldy hse hol holds hs0 hg h63 hb;have hb':(sLen+k)*i.bytes≤140737488355328:=by rw[hby];exact hb
  have hfit:=growslice_fits hg hb'
  have hrun0:=Lib.run_append_grow_zeros (P:=P) w t t' o.type e i zv .i64 kn hu hkn hi hz s0 sLen sCap oldy (by
   cases s0 with
   |none=>
    obtain⟨rfl,rfl⟩:=hs0 rfl;have ho:oldy=[]:=List.eq_nil_of_length_eq_zero (by simpa using hol);subst ho;simp[run_firstCells_none]
   |some b=>exact run_firstCells_some (P:=P) w.drew i.size sLen b sLen sCap oldy (by rw[hsz];exact hol) (holds b rfl)) k (by omega) (by omega) hg (by omega) (by omega) hfit
  simp only[execOp,ho,resolve,ea,et,Sem.run_bind,Sem.run_pure,Result.andThen_ok,invoke,builtin,List.map_toArray,List.map_cons,List.map_nil,hse,e1,hrun0,hza]
 ·intro blk off sl cap cur e' hse hw hroom hfit hone;have hst:=run_storeCells_at P blk (off+sl*es) e' ((List.replicate k z).flatten) 0 cur w hw (by simpa using hfit) (List.all_eq_true.1 hone);simp only[Nat.add_zero]at hst;have hneg:¬((k:Int)<0):=by omega
  have hns:¬(k*i.size=0):=Nat.mul_ne_zero (by omega) (by rw[hsz];exact c6);have hns1:k*es≠0:=Nat.mul_ne_zero (by omega) c6;have hdrop:off+sl*es+k*z.length=off+sl*es+(List.replicate k z).flatten.length:=by rw[hlen,c5]
  have h48i:¬(281474976710656<(k:Int)*(i.bytes:Int)):=by
   rw[←Int.natCast_mul];omega
  have hrun0:(Builtin.append_ #[t,t'] o.type #[.slice (some ⟨blk,off,none⟩) sl cap,.int .i64 k]).run P w=.ok (.slice (some ⟨blk,off,none⟩) (sl+k) cap) (w.setRow blk (cur.toList.take (off+sl*es)++(List.replicate k z).flatten++cur.toList.drop (off+sl*es+(List.replicate k z).flatten.length)).toArray):=by
   simp[Builtin.append_,run_underlying hu,run_underlying hkn,sizeOf,typeInfo,zeroValue,hi,hz,asInt,asIntOf,hkw,hneg,hns1,h48i,hroom,hza,zeS,hsz,hst]
  simp only[execOp,ho,resolve,ea,et,Sem.run_bind,Sem.run_pure,Result.andThen_ok,invoke,builtin,List.map_toArray,List.map_cons,List.map_nil,hse,e1,hrun0]
theorem zuP:∀(ns:List Int) (r:List UInt8),ns.foldl (fun(r:ByteArray) n=>r.push (UInt8.ofNat n.toNat)) ⟨r.toArray⟩=⟨(r++ns.map fun n=>UInt8.ofNat n.toNat).toArray⟩:=by
 intro ns;induction ns with
 |nil=>intro r;simp
 |cons n ns ih=>
  intro r;rw[List.foldl_cons];have:(ByteArray.mk r.toArray).push (UInt8.ofNat n.toNat)=⟨(r++[UInt8.ofNat n.toNat]).toArray⟩:=by simp[ByteArray.push]
  rw[this,ih];simp
theorem zvf{t:TypeId}(h:zg1 P t=true):∃e,P.underlying t=some (.slice e)∧P.underlying e=some (.int .u8):=by
 unfold zg1 at h;split at h
 ·rename_i e he;split at h
  ·rename_i hi _;refine⟨e,zb6 he,?_⟩;unfold zde at hi;split at hi
   ·rename_i hu;cases hi;exact hu
   ·cases hi
  ·cases h
 ·cases h
theorem zl3(h:ahp P c.nt o K fr H)(r:RelS c m fr H a w)
(hn:∀m' fr' H' a' w',K fr' H'→RelS c m' fr' H' a' w'→next a' w'):o.wp P a w next Q:=by
 have key:∀{cells:List Value}{cs:Array Value}(e:TypeId) (d:Nat),d<c.nt→Vl m cells cs.toList→
  RelS c (m.push ⟨w.heap.size,0,cs.size⟩) (fr.put d (.v (.pointer (some ⟨H.n,0,none⟩)))) (H.push ⟨true,cells⟩) {a with tmps:=a.tmps.setIfInBounds d (.pointer (some ⟨w.heap.size,0,none⟩))} (w.alloc (.cells cs e)):=by
  intro cells cs e d hd hv;have hl:cells.length=cs.size:=by simpa using hv.1
  have r':=r.fresh (size:=cs.size) e (Nat.le_refl _) (Nat.le_of_eq hl) fun j v hj=>by
   obtain⟨y,hy,hV⟩:=hv.get hj;exact⟨y,by simpa using hy,hV⟩
  refine r'.put_v hd ?_;have hf:=m.push_f ⟨w.heap.size,0,cs.size⟩;have:=V.ptr (m:=m.push ⟨w.heap.size,0,cs.size⟩) (id:=m.n) (off:=0) (by simp[Mu.push]);rw[hf,r.h.n]at this;exact this
 unfold ahp at h;split at h
 ·rename_i e d ho hd;split at h
  ·rename_i g sz by_ z ht;obtain⟨h1,h2,h3⟩:=h;obtain⟨i,zv,hi,hz,hzc,_,_,_,_⟩:=zbp (w:=w) ht
   have hrun:(execOp a.eval o).run P w=.ok (.value (.pointer (some ⟨w.heap.size,0,none⟩))) (w.alloc (.cells zv.cells e)):=by
    simp[execOp,ho,Instr.alloc,zeroValue,typeInfo,hi,hz,newVar,newRow]
   unfold Oper.wp;rw[hrun,Oper.upon_value,hd];exact hn _ _ _ _ _ h3 (key e d h1 (by rw[hzc];exact zfw h2))
  ·cases h
 ·rename_i e x d ho hd;split at h
  ·rename_i q v ht hx;obtain⟨h1,h2,h3⟩:=h;have hv:=zaT r hx;have hne:v≠.tuple #[]:=fun e=>by rw[e]at h2;simp[zgi]at h2
   have hrun:(execOp a.eval o).run P w=.ok (.value (.pointer (some ⟨w.heap.size,0,none⟩))) (w.alloc (.cells (a.eval x).cells e)):=by
    simp[execOp,ho,Instr.box,newVar,newRow]
   unfold Oper.wp;rw[hrun,Oper.upon_value,hd];exact hn _ _ _ _ _ h3 (key e d h1 (hv.cells hne))
  ·cases h
 ·rename_i op t x y u d ho hd;obtain⟨⟨h1,h2,h3⟩,h4⟩:=h;obtain⟨e,he⟩:=Option.isSome_iff_exists.1 h3
  have hy:y=.const (.slice none 0 0):=by
   unfold zhi at h2;split at h2
   ·rfl
   ·cases h2
  have run:∀(q:Bool) (s:Option Addr) (k l:Nat),zrS op=some q→a.eval x=.slice s k l→(execOp a.eval o).run P w=.ok (.value (.bool (if q=true then s.isNone else !s.isNone))) w:=by
   intro q s k l hq hx
   have hu:P.underlying t=some (.slice e):=by
    unfold zaw at he;split at he
    ·rename_i hu;cases he;exact hu
    ·cases he
   have heq:∀d',(Op.equalIn (d'+1) t (.slice s k l) (.slice none 0 0)).run P w=.ok s.isNone w:=by
    intro d';cases s<;>simp[Op.equalIn,underlying,hu]
   have h10:(Op.equalIn 10000 t (.slice s k l) (.slice none 0 0)).run P w=.ok s.isNone w:=heq 9999;have hc:a.eval (.const (.slice none 0 0))=.slice none 0 0:=rfl;cases op<;>simp only[zrS,Option.some.injEq]at hq<;>first|(cases hq;done)|skip
   all_goals subst hq
   all_goals simp[execOp,ho,hy,hx,hc,eqGuard,binOp,Op.equal,Op.maxDepth,h10]
  have upon:∀b,K (fr.put d (.v (.bool b))) H→(execOp a.eval o).run P w=.ok (.value (.bool b)) w→o.wp P a w next Q:=by
   intro b hK hrun;unfold Oper.wp;rw[hrun,Oper.upon_value,hd];exact hn _ _ _ _ _ hK (r.put_v h1 (.bool b))
  split at h4
  ·rename_i q hq hx;have hv:=zaT r hx;generalize hz:a.eval x=z at hv;cases hv with
   |nils s=>exact upon _ (h4 _) (run _ _ _ _ hq hz)
  ·rename_i q s' n' c' hq hx;have hv:=zaT r hx;generalize hz:a.eval x=z at hv;cases hv with
   |slice hid a1 a2 a3 a4=>
    have:=run _ _ _ _ hq hz;refine upon _ h4 ?_;rw[this];cases q<;>rfl
  ·cases h4
 ·rename_i args tys d ho hd;split at h
  ·rename_i x t hargs htys;obtain⟨h1,h2,h3,h4⟩:=h;obtain⟨e,he⟩:=Option.isSome_iff_exists.1 h2;have hu:=zb6 he;have hv:=zaT r h3;have ea:args= #[x]:=by apply Array.ext';simpa using hargs
   have et:tys= #[t]:=by apply Array.ext';simpa using htys
   generalize hz:a.eval x=z at hv;cases hv with
   |nils s0=>
    have hrun:(execOp a.eval o).run P w=.ok (.value (.int .i64 0)) w:=by
     simp[execOp,ho,resolve,ea,et,invoke,builtin,Builtin.cap_,zb0 hu,goInt,hz]
    unfold Oper.wp;rw[hrun,Oper.upon_value,hd];exact hn _ _ _ _ _ h4 (r.put_v h1 (.int _ _))
  ·cases h
 ·rename_i args tys d ho hd;split at h
  ·rename_i s x t t' hargs htys;split at h
   ·rename_i e n he hx;split at h
    ·rename_i g es by_ z ht;rcases h with h|⟨⟨h1,h2,c1,c2,c3,c5,c6,c7⟩,sv,v,H2',hs2,happ,h4⟩
     rotate_left
     ·refine zs2 (K:=K) ho hargs htys he hx ht h2 c1 c2 c3 c6 c5 c7 hs2 happ ?_ r hn;rw[hd];simp only[zar];rw[if_pos h1];exact h4
     obtain⟨⟨h1,h2,h3,c1,c2,c3,c5,c6,c7⟩,h4⟩:=h;obtain⟨kn,hk⟩:=Option.isSome_iff_exists.1 h2
     have hkn:P.underlying t'=some (.int kn):=by
      unfold zde at hk;split at hk
      ·rename_i hu;cases hk;exact hu
      ·cases hk
     obtain⟨i,zv,hi,hz,hzc,hsz,hby,_,hs⟩:=zbp (w:=w) ht;have hu:=zb6 he;have e1:=zgX (zaT r hx);have hv:=zaT r h3;have ea:args= #[s,x]:=by apply Array.ext';simpa using hargs
     have et:tys= #[t,t']:=by apply Array.ext';simpa using htys
     obtain⟨k,rfl⟩:=Int.eq_ofNat_of_zero_le (show 0≤n by omega);have hzs:zv.cells=z.toArray:=by rw[←hzc]
     have hbk:k*i.bytes≤140737488355328:=by
      rw[hby,Nat.mul_comm];have:((by_*k:Nat):Int)≤140737488355328:=by rw[Int.natCast_mul];exact c2
      omega
     generalize hw0:a.eval s=y at hv;cases hv with
     |nils s0=>
      have hfit:=growslice_fits (old:=0) (need:=0+k) (by omega) (by rw[Nat.zero_add];exact hbk)
      have hrun0:=Lib.run_append_grow_zeros (P:=P) w t t' o.type e i zv .i64 kn hu hkn hi hz s0 0 0 [] (by
       cases s0 with
       |none=>simp[run_firstCells_none]
       |some b=>exact run_firstCells_some (P:=P) w.drew i.size 0 b 0 0 [] (by simp) (by simp)) k (by omega) (by omega) (by omega) (by omega) (by omega) hfit
      rw[Nat.zero_add]at hrun0
      have hrun:(execOp a.eval o).run P w=.ok (.value (.slice (some ⟨w.heap.size,0,none⟩) k (grownCap w k 0 e))) (w.drew.alloc (.cells (([]:List Value).toArray++Builtin.zeroCells zv.cells k++Builtin.zeroCells zv.cells (grownCap w k 0 e-k)) e)):=by
       simp only[execOp,ho,resolve,ea,et,Sem.run_bind,Sem.run_pure,Result.andThen_ok,invoke,builtin,List.map_toArray,List.map_cons,List.map_nil,hw0,e1,hrun0]
      have hgc:=grownCap_ge w k 0 e
      have hz0:Vl m ((List.replicate k z).flatten) (Builtin.zeroCells zv.cells k).toList:=by
       have:(Builtin.zeroCells zv.cells k).toList=(List.replicate k z).flatten:=by
        unfold Builtin.zeroCells;rw[hzs];have:=zfD z k;simpa using this
       rw[this]
       exact zfw (List.all_eq_true.2 fun x hx=>by
        rw[List.mem_flatten]at hx;obtain⟨l',hl',hxl⟩:=hx;rw[(List.mem_replicate.1 hl').2]at hxl
        exact List.all_eq_true.1 c7 x hxl)
      obtain⟨g1,g2,g3⟩:=zmd (es:=es) (k:=grownCap w k 0 e) (need:=k) (zv:=zv) (Vl.nil _) hz0 (by simp[c5]) (by rw[hzs];simpa using c5) hgc;unfold Oper.wp;rw[hrun,Oper.upon_value,hd];simp only[List.nil_append,Array.toArray_toList]at g1 g2 g3;have r2:=r.drew.fresh (size:=grownCap w k 0 e*es) e g1 g2 g3;exact hn _ _ _ _ _ h4 (r2.put_v h1 (zm4 r.h.n (Nat.le_refl _) _ (Nat.le_refl _) hgc))
    ·cases h
   ·cases h
  ·cases h
 ·rename_i args tys ho hd;split at h
  ·rename_i x t hargs htys;split at h
   ·rename_i e id off es' n cc he hx;split at h
    ·rename_i g es by_ z k ht hk;obtain⟨⟨c1,c2,c3,c4,c5,c6,c7,c8⟩,cs,hput,h4⟩:=h;subst c3;obtain⟨i,zv,hi,hz,hzc,hsz,hby,_,hs⟩:=zbp (w:=w) ht;have hu:=zb6 he;have hv:=zaT r hx;have ea:args= #[x]:=by apply Array.ext';simpa using hargs
     have et:tys= #[t]:=by apply Array.ext';simpa using htys
     have hzs:zv.cells=z.toArray:=by rw[←hzc]
     have hzl:(Builtin.zeroCells zv.cells n).toList=(List.replicate n z).flatten:=by
      unfold Builtin.zeroCells;rw[hzs];have:=zfD z n;simpa using this
     have hall:∀x,x∈(List.replicate n z).flatten→x∈z:=fun x hx=>by
      rw[List.mem_flatten]at hx;obtain⟨l',hl',hxl⟩:=hx
      rwa [(List.mem_replicate.1 hl').2]at hxl
     have hrow:Vl m ((List.replicate n z).flatten) ((List.replicate n z).flatten):=zfw (List.all_eq_true.2 fun x hx=>List.all_eq_true.1 c7 x (hall x hx));have hlen:(List.replicate n z).flatten.length=n*es:=by rw[List.length_flatten];simp[c5]
     have hne:(List.replicate n z).flatten≠[]:=fun e0=>by
      rw[e0]at hlen;have:=Nat.mul_pos (Nat.pos_of_ne_zero c1) (Nat.pos_of_ne_zero c6);simp at hlen;omega
     obtain⟨cur,e',g1,g2,g3⟩:=r.heapset hk c4 hput hrow hne;generalize hw0:a.eval x=y at hv;cases hv with
     |slice hid k1 k2 k3 k4=>
      rename_i o' cap;have ho':=k3 (by omega);subst ho';have hst:=run_storeCells_at P (m.f id).blk ((m.f id).base+off) e' ((List.replicate n z).flatten) 0 cur w g1 (by simpa[Nat.add_assoc]using g2) (zhP hrow (List.all_eq_true.2 fun x hx=>List.all_eq_true.1 c8 x (hall x hx)));simp only[Nat.add_zero]at hst
      have hrun:(execOp a.eval o).run P w=.ok (.value (.tuple #[])) (w.setRow (m.f id).blk (cur.toList.take ((m.f id).base+off)++(List.replicate n z).flatten++cur.toList.drop ((m.f id).base+off+(List.replicate n z).flatten.length)).toArray):=by
       cases n with
       |zero=>exact absurd rfl c1
       |succ n=>
        simp[execOp,ho,resolve,ea,et,invoke,builtin,Builtin.clear_,zb0 hu,hw0,zeroValue,typeInfo,hi,hz,hzl,hst]
      unfold Oper.wp;rw[hrun,Oper.upon_value,hd];exact hn m fr _ a _ h4 (by simpa[Nat.add_assoc]using g3)
    ·cases h
   ·cases h
  ·cases h
 ·obtain⟨ts,fr',H',h1,h2⟩:=h;obtain⟨m',r'⟩:=zu0 r h1;exact zhn h2 r' hn
 ·rename_i q d ho hd;obtain⟨s,cells,⟨h1,h2,h3,h4⟩,h5⟩:=h;obtain⟨m',_,r1,hV⟩:=ztG r h4;have hf:=r.f q;unfold RF at hf;rw[h3]at hf;obtain⟨b,e1,e2⟩:=hf cells h4;rw[e1,←e2]at hV;have hq:q<a.tmps.size:=by rw[r.sz];exact h2
  have r2:=r1.put_v h2 hV
  have ea:a.tmps.setIfInBounds q (a.tmps.getD q undef)=a.tmps:=by
   apply Array.ext_getElem?;intro i;rw[Array.getElem?_setIfInBounds];split
   ·rename_i e;subst e;try simp only[Array.getD,dif_pos hq,if_pos hq]
    first|exact(Array.getElem?_eq_getElem hq).symm|simp[hq]
   ·rfl
  rw[ea]at r2;have r3:=r2.put_v h1 hV;have hrun:(execOp a.eval o).run P w=.ok (.value (a.eval (.tmp q))) w:=by simp[execOp,ho]
  unfold Oper.wp;rw[hrun,Oper.upon_value,hd];exact hn m' _ _ _ _ h5 r3
 ·rename_i s t x d ho hd;obtain⟨⟨h1,h2,h3⟩,h4⟩:=h;obtain⟨e,hu,hue⟩:=zvf h2
  have hut:P.underlying t=some .string:=by
   unfold zaE at h3;split at h3
   ·rename_i hu;exact hu
   ·cases h3
  have conv:∀(b:Option Addr) (n cc:Nat) (ns:List Int),a.eval x=.slice b n cc→(∀ad,b=some ad→(loadCells ad n).run P w=.ok (ns.map (Value.int .u8)).toArray w)→(b=none→ns=[])→
   (execOp a.eval o).run P w=.ok (.value (.string (zcY ns))) w:=by
   intro b n cc ns hz hl h0
   have:(Conv.bytesToString (.slice b n cc)).run P w=.ok (.string (zcY ns)) w:=by
    cases b with
    |none=>rw[h0 rfl];rfl
    |some ad=>
     rw[run_bytesToString w ad n cc ns (hl ad rfl)];have:=zuP ns [];simp only[List.nil_append]at this;rw[show ByteArray.empty=⟨([]:List UInt8).toArray⟩from rfl,this];rfl
   simp[execOp,ho,hz,run_convert_bytes_string w s t e b n cc hu hue hut,this]
  split at h4
  ·rename_i cs n hsrc;obtain⟨ns,rfl,hK⟩:=h4
   obtain⟨e0,g,es,by_,z,he,ht⟩:∃e0 g es by_ z,zaw P s=some e0∧tsz P e0=some (g,es,by_,z):=by
    unfold zdS at hsrc;split at hsrc
    ·cases hsrc
    ·rename_i e0 he;split at hsrc
     ·cases hsrc
     ·rename_i ht;exact⟨_,_,_,_,_,he,ht⟩
   have h1s:es=1:=by
    unfold zg1 at h2;rw[he]at h2;simp only[ht]at h2;split at h2
    ·rename_i hh;cases hh;rfl
    ·cases h2
   obtain⟨hlen,ad,cap,hz,hc⟩:=zhE r he ht hsrc;subst h1s;simp only[List.length_map,Nat.mul_one]at hlen
   have hrun:=conv ad n cap ns hz (fun ad' he'=>by
    rcases Nat.eq_zero_or_pos n with hn0|hpos
    ·subst hn0;have:ns=[]:=List.eq_nil_of_length_eq_zero hlen;subst this;simp[loadCells,loadCellsFrom]
    ·obtain⟨b,o',ys,hb,q1,q2⟩:=hc hpos;rw[he']at hb;cases hb
     have hys:ys=ns.map (Value.int .u8):=by
      apply List.ext_getElem?;intro i;cases hi:ys[i]? with
      |none=>
       have:ys.length≤i:=List.getElem?_eq_none_iff.1 hi;have h9:=q1.1;rw[List.getElem?_eq_none (by omega)]
      |some y=>
       have hi2:i<ys.length:=(List.getElem?_eq_some_iff.1 hi).1;have h9:=q1.1;have:(ns.map (Value.int .u8))[i]? =some ((ns.map (Value.int .u8))[i]'(by omega)):=List.getElem?_eq_getElem (by omega);have hv':=q1.2 i _ y this hi;rw[this];simp only[List.getElem_map]at hv'⊢;rw[zgX hv']
     have hL:=run_loadCells_list (P:=P) w ⟨b,o',none⟩ ys q2;have hlys:ys.length=n:=by rw[hys];simpa using hlen
     rw[hlys,hys]at hL;exact hL) (fun he'=>by
    rcases Nat.eq_zero_or_pos n with hn0|hpos
    ·subst hn0;exact List.eq_nil_of_length_eq_zero hlen
    ·obtain⟨b,o',ys,hb,_,_⟩:=hc hpos
     rw[he']at hb;cases hb)
   unfold Oper.wp;rw[hrun,Oper.upon_value,hd];exact hn _ _ _ _ _ hK (r.put_v h1 (.str _))
  ·cases h4
 ·cases h
theorem zj4(h:aop P c.nt o K fr H)(r:RelS c m fr H a w)
(hn:∀m' fr' H' a' w',K fr' H'→RelS c m' fr' H' a' w'→next a' w'):o.wp P a w next Q:=by
 unfold aop at h;split at h
 ·exact zuf ‹_› h r hn
 ·exact zh9 h r hn
 ·exact zh9 h r hn
 ·rename_i t x i ho;rcases h with h|⟨u,l,es,cs,k,j,e,g,z,rfl,a2,a3,a4,a5,a6,a7⟩
  ·exact zh9 h r hn
  ·obtain⟨m',_,r',_⟩:=zv8 r a2;refine zh9 ?_ r' hn
   have hi:rdv (fr.put u (.v (.slice (some ⟨H.n,0,some es⟩) l l))) i=some (.int k j):=by
    rw[←a3];cases i with
    |tmp t2=>
     by_cases hh:t2=u
     ·subst hh;simp[rdv,a2]at a3
     ·simp[rdv,FR.put,hh]
    |_=>rfl
   rw[ho];simp only[zcV,rda,hi,a4,a5];have hp:(fr.put u (.v (.slice (some ⟨H.n,0,some es⟩) l l))) u=.v (.slice (some ⟨H.n,0,some es⟩) l l):=by simp[FR.put]
   rw[hp];simp only;rw[if_pos ⟨trivial,a6.1,a6.2⟩,Nat.zero_add];exact a7
 ·exact zs0 ‹_› h r hn
 ·exact zvX ‹_› h r hn
 ·exact znM ‹_› h r hn
 ·exact ztk ‹_› h r hn
 ·exact zuy ‹_› h r hn
 ·exact zoe ‹_› h r hn
 ·exact zr0 ‹_› h r hn
 ·exact zu3 ‹_› h r hn
 ·exact zuc ‹_› h r hn
 ·exact zoG (.inl ‹_›) h r hn
 ·exact zoG (.inr ‹_›) h r hn
 ·rename_i s t x ho;rcases h with h|⟨⟨h1,h2,h3⟩,l,ns,h4,h5⟩
  ·exact zhn h r hn
  ·cases hd:o.dst with
   |none=>rw[hd]at h3;cases h3
   |some d=>
    refine zl3 ?_ r hn;have hb:=h1;unfold zg1 at hb;cases he:zaw P s with
    |none=>rw[he]at hb;cases hb
    |some e=>
     rw[he]at hb;simp only at hb
     have hp:d<c.nt∧K (fr.put d (.v (.string (zcY ns)))) H:=by
      rw[hd]at h5;simp only[zar]at h5;split at h5
      ·rename_i hdn;exact⟨hdn,h5⟩
      ·cases h5
     simp only[ahp,ho,hd];refine⟨⟨hp.1,h1,h2⟩,?_⟩
     have hs:zdS P s fr H x=some (ns.map (Value.int .u8),l):=by
      unfold lsQ at h4;split at h4
      ·split at h4
       ·rename_i u _ len es cells hf;split at h4
        ·rename_i h1s;cases h4;unfold zdS;rw[he];simp only;split at hb
         ·rename_i ht;rw[ht];simp only[hf];rw[if_pos h1s]
         ·cases hb
        ·cases h4
       ·cases h4
      ·cases h4
     rw[hs];exact⟨ns,rfl,hp.2⟩
 ·exact zhn h r hn
theorem znn(r:RelS c m fr H a w){j:Nat}{y:Option Bool}(h:zeD fr (ops.toList.map (·.dst)) j=some y):yielded ops a.tmps j=y:=by
 unfold zeD at h;split at h
 ·rename_i d hd
  have hd':(ops[j]?).bind (·.dst)=some d:=by
   rw[List.getElem?_map]at hd;cases hj:ops[j]? with
   | none => have:ops.toList[j]? =none:=by simpa using hj
             rw[this]at hd;cases hd
   | some o => have:ops.toList[j]? =some o:=by simpa using hj
               rw[this]at hd;simpa using hd
  have hf:=r.f d;unfold RF at hf;unfold yielded;rw[hd'];split at h
  ·rename_i b hb;cases h;rw[hb]at hf;have:=zju hf;simp only[Array.getD_eq_getD_getElem?]at this;cases hq:a.tmps[d]? with
   |none=>rw[hq]at this;cases this
   |some v=>rw[hq]at this;simp at this;subst this;simp[hq]
  ·rename_i hb;cases h;rw[hb]at hf;simp only[Array.getD_eq_getD_getElem?]at hf;cases hq:a.tmps[d]? with
   |none=>simp[hq]
   |some v=>rw[hq]at hf;simp at hf;subst hf;simp[hq,undef]
  ·cases h
 ·cases h
theorem zwl(h:gop P c.nt (ops.toList.map (·.dst)) o K fr H)(r:RelS c m fr H a w)
(hn:∀m' fr' H' a' w',K fr' H'→RelS c m' fr' H' a' w'→next a' w'):
 if Region.wanted o (yielded ops a.tmps)=true then o.wp P a w next Q else next (a.put o.dst undef) w:=by
 unfold gop at h;split at h
 ·rename_i hg;rw[if_pos (by simp[Region.wanted,hg])];exact zj4 h r hn
 ·rename_i j b hg;split at h
  ·rename_i y hy;have hy':=znn r hy;split at h
   ·rename_i e;rw[if_pos (by simp[Region.wanted,hg,hy',e])];exact zj4 h r hn
   ·rename_i e;rw[if_neg (by simp[Region.wanted,hg,hy',e])];exact zjS h r hn
  ·cases h
theorem zui(h:zlp P c.nt (ops.toList.map (·.dst)) o K fr H)(r:RelS c m fr H a w)
(hn:∀m' fr' H' a' w',K fr' H'→RelS c m' fr' H' a' w'→next a' w'):
 if Region.wanted o (yielded ops a.tmps)=true then o.wp P a w next Q else next (a.put o.dst undef) w:=by
 unfold zlp at h;split at h
 ·rename_i hg;rcases h with h|h
  ·rw[if_pos (by simp[Region.wanted,hg])];exact zj4 h r hn
  ·rw[if_pos (by simp[Region.wanted,hg])];exact zl3 h r hn
 ·rename_i j b hg;split at h
  ·rename_i y hy;have hy':=znn r hy;split at h
   ·rename_i e;rw[if_pos (by simp[Region.wanted,hg,hy',e])];exact h.elim (fun h=>zj4 h r hn) fun h=>zl3 h r hn
   ·rename_i e;rw[if_neg (by simp[Region.wanted,hg,hy',e])];exact zjS h r hn
  ·cases h
theorem zux :∀(l:List Oper) {m:Mu}{fr:FR}{H:AH}{a:Act}{w:World},zeh P c.nt (ops.toList.map (·.dst)) l K fr H→RelS c m fr H a w→
 (∀m' fr' H' a' w',K fr' H'→RelS c m' fr' H' a' w'→Q .normal a' w')→wpList P ops Q l a w:=by
 intro l;induction l with
 |nil=>intro m fr H a w h r hn;exact hn m fr H a w h r
 |cons o l ih=>
  intro m fr H a w h r hn;rw[zp8]at h;refine wpList_step fun KK hKK=>?_
  exact zui h r fun m' fr' H' a' w' h' r'=>hKK _ _ (ih h' r' hn)
end
end Go.Am
