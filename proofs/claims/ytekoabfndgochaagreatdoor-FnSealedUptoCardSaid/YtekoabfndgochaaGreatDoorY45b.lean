/-
  FnSealed: plain laws.
  No condition.
-/
import Derived.Test.YtekoabfndgochaaGreatDoorY45
namespace Go.Pm
open Go.Am IntKind
set_option linter.unusedVariables false
set_option linter.unusedSimpArgs false
variable{a:Int}
theorem zth(h0:0≤a)(h1:a≤999999):(zcE a).size≤13:=by
 have:=(zvi h0 h1).2;have h7:labP.size=7:=rfl;unfold zcE;rw[ByteArray.size_append,h7];omega
theorem zr5(h0:0≤a)(h1:a≤999999):zdX a=some (zcE a):=by
 have hs:=(zvi h0 h1).2;have e:zgy a=some (zqx a):=by unfold zgy;rw[zcB (by omega)];rfl
 have h7:(⟨#[98,97,108,108,111,116,32]⟩:ByteArray).size=7:=rfl;unfold zdX;rw[e,Option.bind_some,zcB (by rw[h7];omega)];rfl
theorem zsC(h0:0≤a)(h1:a≤999999):zf1 a=some (zcE a):=by
 obtain⟨e,hs⟩:=zvi h0 h1;have h7:(⟨#[98,97,108,108,111,116,32]⟩:ByteArray).size=7:=rfl;unfold zf1;rw[e,Option.bind_some,zcB (by rw[h7];omega)];rfl
section
variable {gr:Group}
variable{c:Cipher}{key lo:Int}{n:Nat}
theorem zF0(k:Gb gr){s:ByteArray}(hs:s.size≤1000){x w:Int}(hx:0≤x∧x≤2100000000)(hw:0≤w∧w≤2100000000):zgT gr s [[gr.G]] [x] [w]=some (zhR gr s x w):=by
 have hq:=k.q;have he:=zqD k s x w
 have hc:zbY gr s ([[gr.G]].flatten++[zao gr gr.G x]++[zao gr gr.G w])=some (zgm gr s x w):=by
  unfold zbY;rw[zcB (by simp),zot (by omega) (by simp) (zzD k x w),Option.bind_some,zcB (by omega),Int.tmod_eq_emod_of_nonneg (zd9.1 (zoE s _)).1];rfl
 unfold zgT;rw[show zhR gr s x w=⟨[zao gr gr.G w],[zgm gr s x w],[(w+zgm gr s x w*x)%gr.Q]⟩from rfl];rw[zqQ k,zqQ k,Option.bind_some,Option.bind_some,zwu (by simp) (by simp) (by simp),Option.bind_some,hc,Option.bind_some];generalize zgm gr s x w=c at he hc;have hm:0≤c*x:=Int.mul_nonneg he.1 hx.1;have hm2:c*x≤2000000000*2100000000:=Int.mul_le_mul (by omega) hx.2 hx.1 (by omega)
 have hl:zar (σ:=List Int×List Int×List Int) (β:=List Int×List Int×List Int) (fun i18 s17=>(ix [x] i18).bind fun x24=>(ix [w] i18).bind fun x25=>gd (gr.Q≠0)<|gd ((s17.2.2.length+1)*8≤140737488355328∧s17.2.2.length+1≤4611686018427387904)<|
  some (.go (s17.1,s17.2.1,s17.2.2++[(i64.wrap (x25+(i64.wrap (c*x24)))).tmod gr.Q]))) (fun s17=>(s17.1,s17.2.1,s17.2.2)) ([x].length) 0 ([zao gr gr.G w],[c],[])=some ([zao gr gr.G w],[c],[(w+c*x)%gr.Q]):=by
  refine zaj (za3 (fun i s=>s=if i=0 then([zao gr gr.G w],[c],[])else([zao gr gr.G w],[c],[(w+c*x)%gr.Q])) rfl ?_ fun s h=>h);rintro i s hi rfl;have hi:i<1:=hi;obtain rfl:i=0:=by omega
  refine zaK (l:=[x]) (by simp) (zaK (l:=[w]) (by simp) (zak (by omega) (zak (by simp) (zab ?_))));show(_,_,[(i64.wrap (w+i64.wrap (c*x))).tmod gr.Q])=_;rw[zah (n:=c*x) (by omega) (by omega),zah (by omega) (by omega),Int.tmod_eq_emod_of_nonneg (by omega)];rfl
 rw[hl,Option.bind_some]
def stV(gr:Group)(key:Int)(c:Cipher)(lo:Int)(n:Nat):List EqualLog:=(List.range n).map fun(i:Nat)=>⟨gr.G,c.A,key,zcW gr [c.B,zao gr gr.G (0-(lo+(i:Int)))]⟩
theorem zlT(gr:Group)(key:Int)(c:Cipher)(lo:Int)(n:Nat):(stV gr key c lo n).length=n:=by simp[stV]
theorem zun(k:OkG gr)(hc:zcn gr c=true)(h0:0≤lo∧lo≤1000)(hn:n≤1000){PW:Int→Option Int}{ML:List Int→Option Int}(hP:∀e,PW e=some (zao gr gr.G e))(hM:∀x y,R9 x→R9 y→ML [x,y]=some (zcW gr [x,y])):zaH (σ:=(List EqualLog)×Int) (fun s4=>
 if decide (s4.2≤lo+(n:Int)-1)=true then(
 (PW (i64.wrap (0-s4.2))).bind fun z10=>
 (ML [c.B,z10]).bind fun z11=>
 gd ((s4.1.length+1)*32≤140737488355328∧s4.1.length+1≤4611686018427387904)<|
 some (.go (s4.1++[(EqualLog.mk gr.G c.A key z11)],i64.wrap (s4.2+1))))else(
 some (.out s4.1))) ([],lo)=some (stV gr key c lo n):=by
 have hb:R9 c.B:=by
  simp only[zcn,Bool.and_eq_true]at hc;exact zcr k hc.2
 refine zaj (zfo n (fun i s=>s=(stV gr key c lo i,lo+(i:Int))∧i≤n) ⟨by simp[stV],by omega⟩ ?_ ?_)
 ·rintro i s hi ⟨rfl,_⟩;refine zee (by simp;omega) ?_;dsimp only;rw[zah (n:=0-(lo+(i:Int))) (by omega) (by omega),hP,Option.bind_some,hM _ _ hb (zc5 k _ _),Option.bind_some];refine zak (by rw[zlT];omega) (zab ⟨?_,by omega⟩);rw[zah (n:=lo+(i:Int)+1) (by omega) (by omega)];refine Prod.ext ?_ (by show lo+(i:Int)+1=lo+((i+1:Nat):Int);omega);show stV gr key c lo i++_=stV gr key c lo (i+1);simp[stV,List.range_succ]
 rintro s ⟨rfl,_⟩;exact zaB (by simp;omega) (zab rfl)
theorem zrr(k:OkG gr)(hc:zcn gr c=true){hi:Int}(h0:0≤lo∧lo≤1000)(hn:n≤1000)(hh:hi=lo+(n:Int)-1):za5 gr key c lo hi=some (stV gr key c lo n):=by
 subst hh;unfold za5;rw[zun k hc h0 hn (fun e=>pwI k (r_G k) e) (fun x y hx hy=>m2I k hx hy)];rfl
theorem zrx(k:OkG gr)(hc:zcn gr c=true){hi:Int}(h0:0≤lo∧lo≤1000)(hn:n≤1000)(hh:hi=lo+(n:Int)-1):zbM gr key c lo hi=some (stV gr key c lo n):=by
 subst hh;unfold zbM;rw[zun k hc h0 hn (fun e=>pwS k (r_G k) e) (fun x y hx hy=>m2S k hx hy)];rfl
end
def q0:EqualLog:=⟨0,0,0,0⟩
def siV(gr:Group)(g y c z:Int):Int:=zcW gr [zao gr g z,zao gr y (0-c)]
def ooN(gr:Group)(l:List EqualLog)(m:Nat)(w:Int)(coins:List Int):Nat→List Int×List Int×List Int×Nat
 |0=>([],[],[],0)
 |i+1=>
  let s:=ooN gr l m w coins i
  let e:=l.getD i q0
  if i=m then(s.1++[zao gr e.G1 w,zao gr e.G2 w],s.2.1++[0],s.2.2.1++[0],s.2.2.2)
  else(s.1++[siV gr e.G1 e.Y1 (coins.getD s.2.2.2 0) (coins.getD (s.2.2.2+1) 0),siV gr e.G2 e.Y2 (coins.getD s.2.2.2 0) (coins.getD (s.2.2.2+1) 0)],s.2.1++[coins.getD s.2.2.2 0],s.2.2.1++[coins.getD (s.2.2.2+1) 0],s.2.2.2+2)
def flE(l:List EqualLog):List Int:=l.flatMap fun e=>[e.G1,e.Y1,e.G2,e.Y2]
def ooE(gr:Group)(s:ByteArray)(l:List EqualLog)(S:List Int×List Int×List Int×Nat):Int:=chG gr s (flE l++S.1)
def ooC(gr:Group)(s:ByteArray)(l:List EqualLog)(S:List Int×List Int×List Int×Nat):Int:=(ooE gr s l S-smN gr.Q S.2.1 l.length)%gr.Q
def ooV(gr:Group)(s:ByteArray)(l:List EqualLog)(m:Nat)(x:Int)(coins:List Int):Proof:=
 let w:=coins.getD (coins.length-1) 0
 let S:=ooN gr l m w coins l.length
 ⟨S.1,S.2.1.set m (ooC gr s l S),S.2.2.1.set m ((w+ooC gr s l S*x)%gr.Q)⟩
structure OoOk (gr:Group) (s:ByteArray) (l:List EqualLog) (m:Nat) (x:Int) (coins:List Int):Prop where
 hs:s.size≤40
 hn:1≤l.length∧l.length≤8
 hl:∀e∈l,zaq gr e.G1=true∧zaq gr e.Y1=true∧zaq gr e.G2=true∧zaq gr e.Y2=true
 hm:m<l.length
 hx:E9 gr.Q x
 cl:coins.length=2*l.length-1
 hc:∀z∈coins,E9 gr.Q z
 ht:zao gr (l.getD m q0).G1 x=(l.getD m q0).Y1∧zao gr (l.getD m q0).G2 x=(l.getD m q0).Y2
section
variable {gr:Group}{s:ByteArray}{l:List EqualLog}{m:Nat}{x w:Int}{coins:List Int}
theorem zk1{i:Nat}(hi:i<l.length):l.getD i q0=l[i]:=by simp[List.getD,hi]
theorem zpV(gr:Group)(l:List EqualLog)(m:Nat)(w:Int)(coins:List Int):∀i,(ooN gr l m w coins i).2.2.2=if i≤m then 2*i else 2*(i-1)
 |0=>by simp[ooN]
 |i+1=>by
  have h:=zpV gr l m w coins i;rw[ooN];by_cases e:i=m
  ·subst e;rw[if_pos rfl,if_neg (by omega)];show(ooN gr l i w coins i).2.2.2=_;rw[h,if_pos (Nat.le_refl _)];omega
  ·rw[if_neg e];show(ooN gr l m w coins i).2.2.2+2=_;rw[h];by_cases hl:i≤m
   ·rw[if_pos hl,if_pos (by omega)];omega
   ·rw[if_neg hl,if_neg (by omega)];omega
theorem zjx(gr:Group)(l:List EqualLog)(m:Nat)(w:Int)(coins:List Int):∀i,(ooN gr l m w coins i).1.length=2*i∧(ooN gr l m w coins i).2.1.length=i∧(ooN gr l m w coins i).2.2.1.length=i
 |0=>⟨rfl,rfl,rfl⟩
 |i+1=>by
  obtain⟨h1,h2,h3⟩:=zjx gr l m w coins i;rw[ooN];by_cases e:i=m
  ·rw[if_pos e];simp[h1,h2,h3];omega
  ·rw[if_neg e];simp[h1,h2,h3];omega
theorem zEk(k:OkG gr)(g y c z:Int):R9 (siV gr g y c z):=zCr k (zc5 k _ _) (zc5 k _ _)
theorem zph(k:OkG gr)(O:OoOk gr s l m x coins)(w:Int):∀i,i≤l.length→(∀z∈(ooN gr l m w coins i).1,R9 z)∧∀z∈(ooN gr l m w coins i).2.1,E9 gr.Q z
 |0,_=>⟨by intro z hz;simp[ooN]at hz,by intro z hz;simp[ooN]at hz⟩
 |i+1,hi=>by
  obtain⟨h1,h2⟩:=zph k O w i (by omega);have hq:=k.q;have hnx:=zpV gr l m w coins i
  have hc:i≠m→(ooN gr l m w coins i).2.2.2+1<coins.length:=fun e=>by
   have:=O.cl;have:=O.hm;rw[hnx];split<;>omega
  rw[ooN];by_cases e:i=m
  ·rw[if_pos e];refine⟨apL h1 fun z hz=>?_,apL h2 fun z hz=>?_⟩
   ·simp only[List.mem_cons,List.not_mem_nil,or_false]at hz;rcases hz with rfl|rfl<;>exact zc5 k _ _
   ·rw[List.mem_singleton]at hz;subst hz;exact⟨Int.le_refl 0,by omega⟩
  ·rw[if_neg e];refine⟨apL h1 fun z hz=>?_,apL h2 fun z hz=>?_⟩
   ·simp only[List.mem_cons,List.not_mem_nil,or_false]at hz;rcases hz with rfl|rfl<;>exact zEk k _ _ _ _
   ·rw[List.mem_singleton]at hz;subst hz;exact zhX O.hc (by have:=hc e;omega)
theorem znq(l:List EqualLog):(flE l).length=4*l.length:=by
 induction l with
 |nil=>rfl
 |cons e l ih=>show([e.G1,e.Y1,e.G2,e.Y2]++flE l).length=_;simp[ih];omega
theorem znK{l:List EqualLog}(hl:l.length≤1000):zar (σ:=(List Int)) (fun i5 s4=>
 (ix l i5).bind fun x11=>
 gd ((s4.length+4)*8≤140737488355328∧s4.length+4≤4611686018427387904)<|
 some (.go (s4++[x11.G1,x11.Y1,x11.G2,x11.Y2]))) (fun s4=>s4) (l.length) 0 []=some (flE l):=by
 refine zaj (za3 (fun i s=>s=flE (l.take i)∧i≤l.length) ⟨rfl,by omega⟩ ?_ fun s h=>by rw[h.1,List.take_length]);rintro i s hi ⟨rfl,_⟩;have hn:(flE (l.take i)).length=4*i:=by rw[znq,List.length_take];omega
 refine zaK hi (zak (by omega) (zab ⟨?_,by omega⟩));rw[List.take_succ_eq_append_getElem hi];show flE (l.take i)++_=flE (l.take i++[l[i]]);unfold flE;rw[List.flatMap_append];rfl
theorem zxx(k:OkG gr)(O:OoOk gr s l m x coins){S:List Int}(hS:∀z∈S,R9 z):(flE l++S).all zbE=true:=by
 rw[List.all_append,znX hS,Bool.and_true];refine znX fun z hz=>?_
 obtain⟨e,he,hz⟩:=List.mem_flatMap.1 hz;obtain⟨h1,h2,h3,h4⟩:=O.hl e he;simp only[List.mem_cons,List.not_mem_nil,or_false]at hz;rcases hz with rfl|rfl|rfl|rfl
 ·exact zcr k h1
 ·exact zcr k h2
 ·exact zcr k h3
 exact zcr k h4
theorem zxk(k:OkG gr){e:EqualLog}{c z:Int}(he:zaq gr e.G1=true∧zaq gr e.Y1=true∧zaq gr e.G2=true∧zaq gr e.Y2=true)(hc:E9 gr.Q c):zce gr e c z=some (siV gr e.G1 e.Y1 c z,siV gr e.G2 e.Y2 c z):=by
 unfold zce;rw[wrL k hc];exact zaj (zac (pwI k (zcr k he.1) _) (zac (pwI k (zcr k he.2.1) _) (zac (m2I k (zc5 k _ _) (zc5 k _ _)) (zac (pwI k (zcr k he.2.2.1) _) (zac (pwI k (zcr k he.2.2.2) _) (zac (m2I k (zc5 k _ _) (zc5 k _ _)) (zab rfl)))))))
theorem zzq(k:OkG gr)(O:OoOk gr s l m x coins):zdt gr s l (m:Int) x coins=some (ooV gr s l m x coins,true):=by
 have hq:=k.q;have hp:=k.p;have hn:=O.hn;have hm:=O.hm;have hcl:=O.cl;have w1:i64.wrap ((l.length:Int)-1)=(l.length:Int)-1:=zah (by omega) (by omega)
 have w2:i64.wrap (i64.wrap (2*(l.length:Int))-1)=((2*l.length-1:Nat):Int):=by
  rw[zah (n:=2*(l.length:Int)) (by omega) (by omega),zah (by omega) (by omega)];omega
 have w3:i64.wrap ((coins.length:Int)-1)=((coins.length-1:Nat):Int):=by rw[zah (by omega) (by omega)];omega
 have hst:zcF gr l=some true:=by
  unfold zcF
  have hcf:zaz l gr.P gr.Q gr.G=some (l.any fun _=>false):=zCj (f:=fun e=>zcj e gr.P gr.Q gr.G) fun e he=>by
   obtain⟨h1,h2,h3,h4⟩:=O.hl e he
   have hh:zc3 gr e=some true:=by
    unfold zc3;rw[zmg k];simp[h1,h2,h3,h4]
   unfold zcj;show(zc3 gr e).bind _=_;rw[hh];rfl
  rw[zdV,hcf];have:(decide ((1:Int)≤(l.length:Int))&&decide ((l.length:Int)≤8))=true:=by simp;omega
  rw[this];simp
 have hti:zeM gr (l.getD m q0) x=some true:=by
  have hg:=zk1 hm;obtain⟨h1,h2,h3,h4⟩:=O.hl _ (List.getElem_mem hm);rw[←hg]at h1 h3;unfold zeM;rw[pwI k (zcr k h1),Option.bind_some,O.ht.1,beq_self_eq_true,if_pos rfl,pwI k (zcr k h3),O.ht.2];simp
 have hc9:[x].all (zdU gr)=true:=by simp[zf5.2 O.hx]
 have hw:=O.hc;unfold zdt;have hlb:zd1 s=some true:=by unfold zd1;rw[decide_eq_true (by have:=O.hs;omega)]
 have hwi:zaD (m:Int) 0 ((l.length:Int)-1)=some true:=by rw[zdV];congr 1;simp;omega
 rw[zo5,zjV.2 k,hlb,hst,w1,hwi,zqB (by omega) (by omega),zf5.2 O.hx,w2,zju (by omega) (by omega),exL O.hc,w3]
 have hS:=zhc (σ:=List Int×List Int×List Int×Int) (γ:=List Int×List Int×List Int) (n:=l.length) (stop:=fun s41=>(s41.1,s41.2.1,s41.2.2.1)) (s0:=([],[],[],0)) (body:=fun i42 s41=>
  (ix l i42).bind fun x48=>
  ((if(i42==(m:Int))=true then(
  (zav gr x48.G1 (coins.getD (coins.length-1) 0)).bind fun z53=>
  (zav gr x48.G2 (coins.getD (coins.length-1) 0)).bind fun z54=>
  some (s41.2.2.2,0,0,z53,z54))else(
  (ix coins s41.2.2.2).bind fun x55=>
  (ix coins (i64.wrap (s41.2.2.2+1))).bind fun x56=>
  (zce gr x48 x55 x56).bind fun z57=>
  some (i64.wrap (s41.2.2.2+2),x55,x56,z57.1,z57.2)):Option ((Int×Int×Int×Int×Int))).bind fun x51=>
  gd ((s41.1.length+2)*8≤140737488355328∧s41.1.length+2≤4611686018427387904)<|
  gd ((s41.2.1.length+1)*8≤140737488355328∧s41.2.1.length+1≤4611686018427387904)<|
  gd ((s41.2.2.1.length+1)*8≤140737488355328∧s41.2.2.1.length+1≤4611686018427387904)<|
  some (.go (s41.1++[x51.2.2.2.1,x51.2.2.2.2],s41.2.1++[x51.2.1],s41.2.2.1++[x51.2.2.1],x51.1))))
  (fun i=>let S:=ooN gr l m (coins.getD (coins.length-1) 0) coins i;(S.1,S.2.1,S.2.2.1,(S.2.2.2:Int))) rfl fun i hi=>by
    have hnx:=zpV gr l m (coins.getD (coins.length-1) 0) coins i;obtain⟨l1,l2,l3⟩:=zjx gr l m (coins.getD (coins.length-1) 0) coins i;have hO:=O.hl _ (List.getElem_mem hi);have hg:=zk1 hi;refine zaK hi ?_;dsimp only;rw[ooN];by_cases e:i=m
    ·rw[if_pos e];refine zae (ψ:=(· =(((ooN gr l m (coins.getD (coins.length-1) 0) coins i).2.2.2:Int),0,0,zao gr l[i].G1 (coins.getD (coins.length-1) 0),zao gr l[i].G2 (coins.getD (coins.length-1) 0)))) (zee (by simp[e]) (zac (pwI k (zcr k hO.1) _) (zac (pwI k (zcr k hO.2.2.1) _) (zab rfl)))) ?_;rintro _ rfl;refine zak (by omega) (zak (by omega) (zak (by omega) (zab ?_)));rw[hg]
    ·rw[if_neg e];have hc:(ooN gr l m (coins.getD (coins.length-1) 0) coins i).2.2.2+1<coins.length:=by rw[hnx];split<;>omega
     generalize hS0:ooN gr l m (coins.getD (coins.length-1) 0) coins i=S at l1 l2 l3 hc⊢;have w5:i64.wrap ((S.2.2.2:Int)+1)=((S.2.2.2+1:Nat):Int):=wNL (by omega) (by omega);have w6:i64.wrap ((S.2.2.2:Int)+2)=((S.2.2.2+2:Nat):Int):=wNL (by omega) (by omega);refine zae (ψ:=(· =(((S.2.2.2+2:Nat):Int),coins.getD S.2.2.2 0,coins.getD (S.2.2.2+1) 0,siV gr l[i].G1 l[i].Y1 (coins.getD S.2.2.2 0) (coins.getD (S.2.2.2+1) 0),siV gr l[i].G2 l[i].Y2 (coins.getD S.2.2.2 0) (coins.getD (S.2.2.2+1) 0)))) (zaB (by simp;omega) (zac (zeH (by omega)) ?_)) ?_
     ·rw[w5,w6];exact zac (zeH (by omega)) (zac (zxk k hO (zhX O.hc (by omega))) (zab rfl))
     rintro _ rfl;refine zak (by omega) (zak (by omega) (zak (by omega) (zab ?_)));rw[hg]
 have hx0:ix l (m:Int)=some (l.getD m q0):=by rw[zbB hm,zk1 hm]
 have hE:((coins.length:Int) !=((2*l.length-1:Nat):Int))=false:=by rw[hcl];simp
 rw[hE];refine zaj (zae (ψ:=(· =false)) (zac rfl (zaB rfl (zac rfl (zaB rfl (zac rfl (zaB rfl (zac rfl (zaB rfl (zac rfl (zaB rfl (zaB rfl (zac rfl (zaB rfl (zac hx0 (zac hti (zab rfl)))))))))))))))) ?_);rintro _ rfl;refine zaB rfl (zac (zeH (by omega)) (zac hS ?_));obtain⟨l1,l2,l3⟩:=zjx gr l m (coins.getD (coins.length-1) 0) coins l.length;obtain⟨g1,g2⟩:=zph k O (coins.getD (coins.length-1) 0) l.length (Nat.le_refl _);have hV:ooV gr s l m x coins=(let w:=coins.getD (coins.length-1) 0;let S:=ooN gr l m w coins l.length;⟨S.1,S.2.1.set m (ooC gr s l S),S.2.2.1.set m ((w+ooC gr s l S*x)%gr.Q)⟩):=rfl;rw[hV];dsimp only;have hwb:E9 gr.Q (coins.getD (coins.length-1) 0):=zhX O.hc (by omega);generalize ooN gr l m (coins.getD (coins.length-1) 0) coins l.length=S at l1 l2 l3 g1 g2⊢;generalize coins.getD (coins.length-1) 0=w at hwb⊢;have hfl:=znq l
 have hch:zbb gr s l S.1=some (ooE gr s l S,true):=by
  unfold zbb;rw[znK (by omega)];exact zaj (zac rfl (zak (by omega) (zac (chL k O.hs (by rw[List.length_append];omega) (zxx k O g1)).1 (zab rfl))))
 have hEb:E9 gr.Q (ooE gr s l S):=zpx k _ _;have hsm:E9 gr.Q (smN gr.Q S.2.1 S.2.1.length):=zmy (by omega) _ _;refine zac hch (zaB rfl (zac (zsP (by omega) g2).1 ?_))
 have e1:(i64.wrap (ooE gr s l S-smN gr.Q S.2.1 S.2.1.length))%gr.Q=ooC gr s l S:=by
  unfold ooC;rw[l2]at hsm⊢;have h1:=hEb.1;have h2:=hEb.2;have h3:=hsm.1;have h4:=hsm.2;rw[zah (by omega) (by omega)]
 have hC:E9 gr.Q (ooC gr s l S):=zj3 (by omega) _;refine zac (zrU k _) ?_;rw[e1];have hmm:m<S.2.1.length:=by omega
 refine zac (zeH hmm) (zac (a:=ooC gr s l S) ?_ ?_)
 ·rw[Int.toNat_natCast,zbB (show m<(S.2.1.set m (ooC gr s l S)).length by simpa using hmm)];simp
 refine zac (zrU k _) (zac (zeH (show m<S.2.2.1.length by omega)) (zab ?_));rw[(zCe (q:=gr.Q) (by omega) hwb hC O.hx).1,Int.toNat_natCast]
theorem zxP{q:Int}{l m:List Int}:∀{i:Nat},i≤l.length→smN q (l++m) i=smN q l i
 |0,_=>rfl
 |i+1,h=>by
  show(smN q (l++m) i+(l++m).getD i 0)%q=(smN q l i+l.getD i 0)%q;rw[zxP (by omega)];simp[List.getD,List.getElem?_append_left (show i<l.length by omega)]
theorem zus{q a:Int}{l:List Int}{i:Nat}(h:l.length=i):smN q (l++[a]) (i+1)=(smN q l i+a)%q:=by
 show(smN q (l++[a]) i+(l++[a]).getD i 0)%q=_;rw[zxP (by omega)];subst h;simp[List.getD]
theorem zzE(k:OkG gr)(O:OoOk gr s l m x coins):zfi gr s l (m:Int) x coins=some (ooV gr s l m x coins):=by
 have hq:=k.q;have hp:=k.p;have hn:=O.hn;have hm:=O.hm;have hcl:=O.cl;have w3:i64.wrap ((coins.length:Int)-1)=((coins.length-1:Nat):Int):=by rw[zah (by omega) (by omega)];omega
 unfold zfi;rw[w3]
 have hS:=zhc (σ:=List Int×List Int×List Int×List Int×Int) (γ:=List Int×List Int×List Int×Int) (n:=l.length) (stop:=fun s27=>(s27.2.1,s27.2.2.1,s27.2.2.2.1,s27.2.2.2.2)) (s0:=(coins,[],[],[],0)) (body:=fun i28 s27=>
  (((ix l i28).bind fun x37=>
  if(i28==(m:Int))=true then(
  (zau gr x37.G1 (coins.getD (coins.length-1) 0)).bind fun z39=>
  (zau gr x37.G2 (coins.getD (coins.length-1) 0)).bind fun z40=>
  gd ((s27.2.1.length+2)*8≤140737488355328∧s27.2.1.length+2≤4611686018427387904)<|
  gd ((s27.2.2.1.length+1)*8≤140737488355328∧s27.2.2.1.length+1≤4611686018427387904)<|
  gd ((s27.2.2.2.1.length+1)*8≤140737488355328∧s27.2.2.2.1.length+1≤4611686018427387904)<|
  some (s27.1,s27.2.1++[z39,z40],s27.2.2.1++[0],s27.2.2.2.1++[0],s27.2.2.2.2))else(
  (ix s27.1 0).bind fun x41=>
  (ix s27.1 1).bind fun x42=>
  gd (2≤s27.1.length∧s27.1.length≤s27.1.length)<|
  (zau gr x37.G1 x42).bind fun z43=>
  (zau gr x37.Y1 (i64.wrap (0-x41))).bind fun z44=>
  (zbC gr [z43,z44]).bind fun z45=>
  (zau gr x37.G2 x42).bind fun z46=>
  (zau gr x37.Y2 (i64.wrap (0-x41))).bind fun z47=>
  (zbC gr [z46,z47]).bind fun z48=>
  gd ((s27.2.1.length+2)*8≤140737488355328∧s27.2.1.length+2≤4611686018427387904)<|
  gd ((s27.2.2.1.length+1)*8≤140737488355328∧s27.2.2.1.length+1≤4611686018427387904)<|
  gd ((s27.2.2.2.1.length+1)*8≤140737488355328∧s27.2.2.2.1.length+1≤4611686018427387904)<|
  gd (gr.Q≠0)<|
  some ((s27.1.take s27.1.length).drop 2,s27.2.1++[z45,z48],s27.2.2.1++[x41],s27.2.2.2.1++[x42],(i64.wrap (s27.2.2.2.2+x41)).tmod gr.Q)):Option ((List Int×List Int×List Int×List Int×Int))).bind fun x36=>
  some (.go (x36.1,x36.2.1,x36.2.2.1,x36.2.2.2.1,x36.2.2.2.2))))
  (fun i=>let S:=ooN gr l m (coins.getD (coins.length-1) 0) coins i;(coins.drop S.2.2.2,S.1,S.2.1,S.2.2.1,smN gr.Q S.2.1 i)) rfl fun i hi=>by
    have hnx:=zpV gr l m (coins.getD (coins.length-1) 0) coins i;obtain⟨l1,l2,l3⟩:=zjx gr l m (coins.getD (coins.length-1) 0) coins i;have hO:=O.hl _ (List.getElem_mem hi);have hg:=zk1 hi;dsimp only;rw[ooN];generalize hS0:ooN gr l m (coins.getD (coins.length-1) 0) coins i=S at hnx l1 l2 l3⊢;have hse:=zmy (show 0<gr.Q by omega) S.2.1 i;by_cases e:i=m
    ·rw[if_pos e];refine zae (ψ:=(· =(coins.drop S.2.2.2,S.1++[zao gr l[i].G1 (coins.getD (coins.length-1) 0),zao gr l[i].G2 (coins.getD (coins.length-1) 0)],S.2.1++[0],S.2.2.1++[0],smN gr.Q S.2.1 i))) (zaK hi (zee (by simp[e]) (zac (pwS k (zcr k hO.1) _) (zac (pwS k (zcr k hO.2.2.1) _) (zak (by omega) (zak (by omega) (zak (by omega) (zab rfl)))))))) ?_;rintro _ rfl;refine zab ?_;dsimp only;rw[hg,zus l2,Int.add_zero,Int.emod_eq_of_lt hse.1 hse.2]
    ·rw[if_neg e];have hc:S.2.2.2+1<coins.length:=by rw[hnx];split<;>omega
     have hca:=zhX O.hc (i:=S.2.2.2) (by omega)
     have e0:ix (coins.drop S.2.2.2) 0=some (coins.getD S.2.2.2 0):=by
      rw[show(0:Int)=((0:Nat):Int)from rfl,zeH (by rw[List.length_drop];omega)];simp[List.getD]
     have e1:ix (coins.drop S.2.2.2) 1=some (coins.getD (S.2.2.2+1) 0):=by
      rw[show(1:Int)=((1:Nat):Int)from rfl,zeH (by rw[List.length_drop];omega)];simp[List.getD]
     have hse1:=hse.1;have hse2:=hse.2;have hca1:=hca.1;have hca2:=hca.2
     have e2:(i64.wrap (smN gr.Q S.2.1 i+coins.getD S.2.2.2 0)).tmod gr.Q=(smN gr.Q S.2.1 i+coins.getD S.2.2.2 0)%gr.Q:=by
      rw[zah (by omega) (by omega),Int.tmod_eq_emod_of_nonneg (by omega)]
     refine zae (ψ:=(· =(coins.drop (S.2.2.2+2),S.1++[siV gr l[i].G1 l[i].Y1 (coins.getD S.2.2.2 0) (coins.getD (S.2.2.2+1) 0),siV gr l[i].G2 l[i].Y2 (coins.getD S.2.2.2 0) (coins.getD (S.2.2.2+1) 0)],S.2.1++[coins.getD S.2.2.2 0],S.2.2.1++[coins.getD (S.2.2.2+1) 0],(smN gr.Q S.2.1 i+coins.getD S.2.2.2 0)%gr.Q))) (zaK hi (zaB (by simp;omega) (zac e0 (zac e1 (zak (by rw[List.length_drop];omega) ?_))))) ?_
     ·rw[wrL k hca];refine zac (pwS k (zcr k hO.1) _) (zac (pwS k (zcr k hO.2.1) _) (zac (m2S k (zc5 k _ _) (zc5 k _ _)) (zac (pwS k (zcr k hO.2.2.1) _) (zac (pwS k (zcr k hO.2.2.2) _) (zac (m2S k (zc5 k _ _) (zc5 k _ _)) (zak (by omega) (zak (by omega) (zak (by omega) (zak (by omega) (zab ?_))))))))));rw[e2,List.take_length,List.drop_drop];rfl
     rintro _ rfl;refine zab ?_;dsimp only;rw[hg,zus l2]
 refine zaj (zac (zeH (by omega)) (zac hS ?_));obtain⟨l1,l2,l3⟩:=zjx gr l m (coins.getD (coins.length-1) 0) coins l.length;obtain⟨g1,g2⟩:=zph k O (coins.getD (coins.length-1) 0) l.length (Nat.le_refl _);have hV:ooV gr s l m x coins=(let w:=coins.getD (coins.length-1) 0;let S:=ooN gr l m w coins l.length;⟨S.1,S.2.1.set m (ooC gr s l S),S.2.2.1.set m ((w+ooC gr s l S*x)%gr.Q)⟩):=rfl;rw[hV];dsimp only;have hwb:E9 gr.Q (coins.getD (coins.length-1) 0):=zhX O.hc (by omega);generalize ooN gr l m (coins.getD (coins.length-1) 0) coins l.length=S at l1 l2 l3 g1 g2⊢;generalize coins.getD (coins.length-1) 0=w at hwb⊢;have hfl:=znq l
 have hch:zeA gr s l S.1=some (ooE gr s l S):=by
  unfold zeA;rw[znK (by omega)];exact zaj (zac rfl (zak (by omega) (zac (chL k O.hs (by rw[List.length_append];omega) (zxx k O g1)).2 (zab rfl))))
 have hEb:E9 gr.Q (ooE gr s l S):=zpx k _ _;have hsm:E9 gr.Q (smN gr.Q S.2.1 l.length):=zmy (by omega) _ _
 have e1:(i64.wrap (ooE gr s l S-smN gr.Q S.2.1 l.length))%gr.Q=ooC gr s l S:=by
  unfold ooC;have h1:=hEb.1;have h2:=hEb.2;have h3:=hsm.1;have h4:=hsm.2;rw[zah (by omega) (by omega)]
 have hC:E9 gr.Q (ooC gr s l S):=zj3 (by omega) _;refine zac hch (zac (znw (by omega) (by omega)) ?_);rw[e1];refine zac (zeH (show m<S.2.1.length by omega)) (zak (by omega) (zac (zeH (show m<S.2.2.1.length by omega)) (zab ?_)));rw[(zCe (q:=gr.Q) (by omega) hwb hC O.hx).2,Int.toNat_natCast]
end
variable{ct:Contest}{key:Int}{v:List Int}
theorem zxl(k:OkC ct)(hv:zc6 ct v=true):zc2 ct v=some (zck ct v):=by
 unfold zc2 zck;unfold zc6 at hv;rcases k.k with⟨k1|k3,ho,hm,hp⟩|⟨k2,ho,hp,hm⟩|⟨k4,ho,hm,hp⟩
 ·simp only[k1,if_true,Bool.and_eq_true]at hv⊢;rw[zvB,if_pos (show((1:Int)==1)=true from rfl),zkR (by omega) hv.1.1];rfl
 ·simp only[k3,show¬(3:Int)=1 by omega,show¬(3:Int)=2 by omega,if_false,if_true,Bool.and_eq_true]at hv⊢;have hl:=zbe.1 hv.2.2;simp only[show((3:Int)==1)=false from rfl,show((3:Int)==3)=true from rfl,Bool.false_eq_true,if_false,if_true]
  have e:zar (σ:=(List Int)) (fun i8 s7=>(ix v i8).bind fun x14=>gd ((s7.length+1)*8≤140737488355328∧s7.length+1≤4611686018427387904)<|some (.go (s7++[i64.wrap (x14+1)]))) (fun s7=>s7) (v.length) 0 []=some (v.map (· +1)):=by
   refine zaj (za3 (fun i s=>s=(v.take i).map (· +1)∧i≤v.length) ⟨rfl,by omega⟩ ?_ fun s h=>by rw[h.1,List.take_length]);rintro i s hi ⟨rfl,_⟩;have hx:=zbe.1 (List.all_eq_true.1 hv.1 v[i] (List.getElem_mem hi));refine zaK hi (zak (by simp;omega) (zab ⟨?_,by omega⟩));rw[zah (n:=v[i]+1) (by omega) (by omega),List.take_succ_eq_append_getElem hi,List.map_append];rfl
  rw[e];rfl
 ·simp only[k2,show¬(2:Int)=1 by omega,show¬(2:Int)=3 by omega,if_false,if_true,Bool.and_eq_true,decide_eq_true_eq]at hv⊢;have:=hv.1;simp only[show((2:Int)==1)=false from rfl,show((2:Int)==3)=false from rfl,Bool.false_eq_true,if_false];unfold zcd;rw[zcB (by omega)];rfl
 simp only[k4,show¬(4:Int)=1 by omega,show¬(4:Int)=2 by omega,show¬(4:Int)=3 by omega,if_false,Bool.and_eq_true]at hv⊢;have hl:=zbe.1 hv.2;simp only[show((4:Int)==1)=false from rfl,show((4:Int)==3)=false from rfl,Bool.false_eq_true,if_false];unfold zcd;rw[zcB (by omega)];rfl
theorem zxX(k:OkC ct)(hv:zc6 ct v=true):zdH ct v=some (zfm ct v):=by
 obtain⟨_,h1,h2⟩:=zlO k hv
 have hb:zay ct=some (zfX ct)∧1≤zfX ct∧zfX ct≤27:=by
  unfold zay zfX;rcases k.k with⟨k1|k3,ho,hm,hp⟩|⟨k2,ho,hp,hm⟩|⟨k4,ho,hm,hp⟩
  ·rw[k1];exact⟨rfl,by simp,by simp⟩
  ·rw[k3,zah (n:=ct.Options+1) (by omega) (by omega)];exact⟨rfl,by simp;omega,by simp;omega⟩
  ·rw[k2,zah (n:=ct.Points+1) (by omega) (by omega)];exact⟨rfl,by simp;omega,by simp;omega⟩
  ·rw[k4];exact⟨rfl,by simp,by simp⟩
 unfold zdH;rw[zxl k hv,Option.bind_some,hb.1,Option.bind_some,zkw (by omega) h2 (zdd (Int.le_refl 0) (by omega) h1)];rfl
theorem zx9(k:OkC ct)(hv:zc6 ct v=true):zbA ct v=some (zfx ct v):=by
 unfold zbA zfx;rw[zfq,Option.bind_some,show(ct.Kind==1||ct.Kind==2)=zbG ct from rfl,zxl k hv,zxX k hv];cases zbG ct<;>rfl
theorem zyo(k:OkC ct):zet ct=some (zma ct):=by
 unfold zet zma;rw[zjh,show(ct.Kind==1||ct.Kind==2)=zbG ct from rfl];cases h:zbG ct with
 |false=>rfl
 |true=>
  obtain⟨h1,h2,h3,h4⟩:=zii k h;have e1:(2*zcA ct+2)*ct.Options≤12*8:=Int.mul_le_mul (by omega) h1.2 (by omega) (by omega);have e2:0≤(2*zcA ct+2)*ct.Options:=Int.mul_nonneg (by omega) (by omega);have e3:ct.Options*zcA ct≤8*5:=Int.mul_le_mul h1.2 h2.2 (by omega) (by omega);rw[zsZ (.inl h),if_pos h];simp only[Option.bind_some,Bool.not_true,Bool.false_eq_true,if_false,if_true];rw[zah (n:=2*zcA ct) (by omega) (by omega),zah (n:=2*zcA ct+2) (by omega) (by omega),zah (n:=(2*zcA ct+2)*ct.Options) (by omega) (by omega),zah (n:=ct.Most-ct.Least) (by omega) (by omega),zah (n:=2*(ct.Most-ct.Least)) (by omega) (by omega),zah (n:=(2*zcA ct+2)*ct.Options+2*(ct.Most-ct.Least)) (by omega) (by omega),zah (by omega) (by omega),Int.mul_comm]
def cK(gr:Group)(key e r:Int):Cipher:=⟨zao gr gr.G r,zcW gr [zao gr gr.G e,zao gr key r]⟩
theorem zzu{gr:Group}(k:OkG gr)(hk:zaq gr key=true)(e r:Int):zb8 gr key (zao gr gr.G e) r=some (cK gr key e r):=(zqN k hk (zm0 k (zfc k) e) r).1
theorem zt8{gr:Group}(k:OkG gr)(hk:zaq gr key=true)(e r:Int):zgo gr key e r=some (cK gr key e r):=by
 unfold zgo;rw[pwS k (r_G k),Option.bind_some,(zqN k hk (zm0 k (zfc k) e) r).2];rfl
theorem zpe{gr:Group}(k:OkG gr)(hk:zaq gr key=true)(e r:Int):cK gr key e r=⟨pg gr r,pg gr (e+dl gr key*r)⟩:=by
 have h:=zi6 k hk;unfold cK;rw[←zdY k,←zge k,←h];rfl
theorem zlw{gr:Group}(k:OkG gr)(hk:zaq gr key=true)(e r:Int):zcn gr (cK gr key e r)=true:=by
 rw[zpe k hk];show(zaq gr (pg gr r)&&zaq gr (pg gr _))=true;rw[zhY k,zhY k];rfl
theorem zzA{gr:Group}(k:OkG gr)(hk:zaq gr key=true){s:ByteArray}{e r lo:Int}{m n:Nat}{c:Cipher}{coins:List Int}(hc:c=⟨pg gr r,pg gr (e+dl gr key*r)⟩)(he:e=lo+(m:Int))(hs:s.size≤40)(hm:m<n)(hn:n≤8)(hr:E9 gr.Q r)(hl:coins.length=2*n-1)(ha:∀z∈coins,E9 gr.Q z):OoOk gr s (stV gr key c lo n) m r coins:=by
 have hd:=zi6 k hk;subst hc;have hY:∀j:Int,zcW gr [pg gr (e+dl gr key*r),zao gr gr.G j]=pg gr (e+dl gr key*r+j):=fun j=>zdY k _ _
 refine⟨hs,⟨by rw[zlT];omega,by rw[zlT];omega⟩,?_,by rw[zlT];exact hm,hr,by rw[zlT];exact hl,ha,?_⟩
 ·intro x hx;obtain⟨i,_,rfl⟩:=List.mem_map.1 hx;dsimp only;rw[hY];exact⟨zfc k,zhY k _,hk,zhY k _⟩
 have e1:(stV gr key ⟨pg gr r,pg gr (e+dl gr key*r)⟩ lo n).getD m q0=⟨gr.G,pg gr r,key,pg gr (dl gr key*r)⟩:=by
  unfold stV;rw[List.getD,List.getElem?_map,List.getElem?_range hm];show EqualLog.mk gr.G (pg gr r) key (zcW gr [pg gr (e+dl gr key*r),zao gr gr.G (0-(lo+(m:Int)))])=_;rw[hY,show e+dl gr key*r+(0-(lo+(m:Int)))=dl gr key*r by omega]
 rw[e1];refine⟨rfl,?_⟩;show zao gr key r=pg gr (dl gr key*r);rw[←zge k,←hd]
def smE(d:List Int):Nat→Int:=smL fun i=>d.getD i 0
def srN(Q:Int)(r:Nat→Int):Nat→Int
 |0=>0
 |i+1=>(srN Q r i+r i)%Q
def svR(coins:List Int)(q i:Nat):Int:=coins.getD (i*(2*q+2)) 0
def svC(gr:Group)(key:Int)(d coins:List Int)(q i:Nat):Cipher:=cK gr key (d.getD i 0) (svR coins q i)
def svP(gr:Group)(key:Int)(lab:ByteArray)(d coins:List Int)(q i:Nat):Proof:=ooV gr lab (stV gr key (svC gr key d coins q i) 0 (q+1)) (d.getD i 0).toNat (svR coins q i) (((coins.drop (i*(2*q+2))).take (2*q+2)).drop 1)
structure SvOk (gr:Group) (key:Int) (lab:ByteArray) (d coins:List Int) (q:Nat):Prop where
 k:OkG gr
 hk:zaq gr key=true
 hs:lab.size≤40
 hn:d.length≤8
 hq:1≤q∧q≤5
 hd:∀z∈d,0≤z∧z≤(q:Int)
 hl:d.length*(2*q+2)≤coins.length∧coins.length≤300
 hc:∀z∈coins,E9 gr.Q z
theorem zyn{Q:Int}(h:0<Q)(r:Nat→Int):∀n,E9 Q (srN Q r n)
 |0=>⟨Int.le_refl 0,h⟩
 |n+1=>zj3 h _
theorem zzL(Q:Int)(r:Nat→Int):∀n,srN Q r n%Q=smL r n%Q
 |0=>rfl
 |n+1=>by
  show(srN Q r n+r n)%Q%Q=(smL r n+r n)%Q;rw[Int.emod_emod,Int.add_emod,zzL Q r n,←Int.add_emod]
section
variable {gr:Group}{key:Int}{lab:ByteArray}{d coins:List Int}{q:Nat}
variable{i:Nat}
theorem zvc(S:SvOk gr key lab d coins q)(hi:i<d.length):i*(2*q+2)+(2*q+2)≤coins.length:=by
 have h:=Nat.mul_le_mul_right (2*q+2) (show i+1≤d.length by omega);rw[Nat.succ_mul]at h;exact Nat.le_trans h S.hl.1
theorem zvq(S:SvOk gr key lab d coins q)(hi:i<d.length):0≤d.getD i 0∧d.getD i 0≤(q:Int):=zhX S.hd hi
theorem zyg(S:SvOk gr key lab d coins q)(hi:i<d.length):E9 gr.Q (svR coins q i):=zhX S.hc (by have:=zvc S hi;have:=S.hq;omega)
theorem zvv(S:SvOk gr key lab d coins q):∀i,i≤d.length→0≤smE d i∧smE d i≤5*(i:Int)
 |0,_=>⟨Int.le_refl 0,Int.le_refl 0⟩
 |i+1,hi=>by
  have h:=zvv S i (by omega);have hd:=zvq S (i:=i) (by omega);have hq:=S.hq;show 0≤smE d i+d.getD i 0∧smE d i+d.getD i 0≤5*((i+1:Nat):Int);omega
theorem zro(S:SvOk gr key lab d coins q)(hi:i<d.length):OoOk gr lab (stV gr key (svC gr key d coins q i) 0 (q+1)) (d.getD i 0).toNat (svR coins q i) (((coins.drop (i*(2*q+2))).take (2*q+2)).drop 1):=by
 have hd:=zvq S hi;have ha:=zvc S hi;have hq:=S.hq;refine zzA S.k S.hk (zpe S.k S.hk _ _) (by omega) S.hs (by omega) (by omega) (zyg S hi) ?_ fun z hz=>S.hc z (List.mem_of_mem_drop (List.mem_of_mem_take (List.mem_of_mem_drop hz)))
 rw[List.length_drop,List.length_take,List.length_drop];omega
theorem zIF(S:SvOk gr key lab d coins q){ct:Contest}(hm:zbD ct=some (q:Int))(voter:Int):zar (σ:=Int×List Cipher×List Proof×List Int×List Int×List Int×Int×Int) (β:=(Int×List Cipher×List Proof×List Int×List Int×List Int×Int×Int) ⊕ (Sealed×Bool)) (fun i62 s61=>
 (ix d i62).bind fun x68=>
 gd (0≤(i64.wrap (i62*(i64.wrap ((i64.wrap (2*(q:Int)))+2)))))<|
 gd (0≤(i64.wrap ((i64.wrap (i62+1))*(i64.wrap ((i64.wrap (2*(q:Int)))+2)))))<|
 gd ((i64.wrap (i62*(i64.wrap ((i64.wrap (2*(q:Int)))+2)))).toNat≤(i64.wrap ((i64.wrap (i62+1))*(i64.wrap ((i64.wrap (2*(q:Int)))+2)))).toNat∧(i64.wrap ((i64.wrap (i62+1))*(i64.wrap ((i64.wrap (2*(q:Int)))+2)))).toNat≤coins.length)<|
 (ix ((coins.take ((i64.wrap ((i64.wrap (i62+1))*(i64.wrap ((i64.wrap (2*(q:Int)))+2)))).toNat)).drop ((i64.wrap (i62*(i64.wrap ((i64.wrap (2*(q:Int)))+2)))).toNat)) 0).bind fun x69=>
 (zav gr gr.G x68).bind fun z70=>
 (zb8 gr key z70 x69).bind fun z71=>
 gd (1≤((coins.take ((i64.wrap ((i64.wrap (i62+1))*(i64.wrap ((i64.wrap (2*(q:Int)))+2)))).toNat)).drop ((i64.wrap (i62*(i64.wrap ((i64.wrap (2*(q:Int)))+2)))).toNat)).length∧((coins.take ((i64.wrap ((i64.wrap (i62+1))*(i64.wrap ((i64.wrap (2*(q:Int)))+2)))).toNat)).drop ((i64.wrap (i62*(i64.wrap ((i64.wrap (2*(q:Int)))+2)))).toNat)).length≤((coins.take ((i64.wrap ((i64.wrap (i62+1))*(i64.wrap ((i64.wrap (2*(q:Int)))+2)))).toNat)).drop ((i64.wrap (i62*(i64.wrap ((i64.wrap (2*(q:Int)))+2)))).toNat)).length)<|
 (zbD ct).bind fun z72=>
 (za5 gr key z71 0 z72).bind fun z73=>
 (zdt gr lab z73 x68 x69 ((((coins.take ((i64.wrap ((i64.wrap (i62+1))*(i64.wrap ((i64.wrap (2*(q:Int)))+2)))).toNat)).drop ((i64.wrap (i62*(i64.wrap ((i64.wrap (2*(q:Int)))+2)))).toNat)).take (((coins.take ((i64.wrap ((i64.wrap (i62+1))*(i64.wrap ((i64.wrap (2*(q:Int)))+2)))).toNat)).drop ((i64.wrap (i62*(i64.wrap ((i64.wrap (2*(q:Int)))+2)))).toNat)).length)).drop 1)).bind fun z74=>
 if(!z74.2)=true then(
 some (.out (.inr ((Sealed.mk 0 [] [] (Proof.mk [] [] [])),false))))else(
 gd ((s61.2.1.length+1)*16≤140737488355328∧s61.2.1.length+1≤4611686018427387904)<|
 gd ((s61.2.2.1.length+1)*72≤140737488355328∧s61.2.2.1.length+1≤4611686018427387904)<|
 (zbF gr (i64.wrap (s61.2.2.2.2.2.2.2+x69))).bind fun z76=>
 some (.go (s61.1,s61.2.1++[z71],s61.2.2.1++[z74.1],s61.2.2.2.1,s61.2.2.2.2.1,s61.2.2.2.2.2.1,i64.wrap (s61.2.2.2.2.2.2.1+x68),z76)))) (fun s61=>.inl (s61.1,s61.2.1,s61.2.2.1,s61.2.2.2.1,s61.2.2.2.2.1,s61.2.2.2.2.2.1,s61.2.2.2.2.2.2.1,s61.2.2.2.2.2.2.2)) (d.length) 0 (voter,[],[],[],[],[],0,0)=some (.inl (voter,(List.range d.length).map (svC gr key d coins q),(List.range d.length).map (svP gr key lab d coins q),[],[],[],smE d d.length,srN gr.Q (svR coins q) d.length)):=by
 have hp:=S.k.p;have hQ:=S.k.q;have hq:=S.hq;have hn:=S.hn;have hcl:=S.hl.2;refine zhc (fun i=>(voter,(List.range i).map (svC gr key d coins q),(List.range i).map (svP gr key lab d coins q),[],[],[],smE d i,srN gr.Q (svR coins q) i)) rfl fun i hi=>?_
 have ha:=zvc S hi;have hd:=zvq S hi;have hr:=zyg S hi;have hsm:=zvv S i (by omega);have hsr:=zyn (Q:=gr.Q) (by omega) (svR coins q) i
 have wT:i64.wrap (i64.wrap (2*(q:Int))+2)=((2*q+2:Nat):Int):=by
  rw[zah (n:=2*(q:Int)) (by omega) (by omega),zah (by omega) (by omega)];omega
 have wA:i64.wrap ((i:Int)*((2*q+2:Nat):Int))=((i*(2*q+2):Nat):Int):=by
  rw[←Int.natCast_mul];exact zah (by omega) (by omega)
 have wB:i64.wrap (i64.wrap ((i:Int)+1)*((2*q+2:Nat):Int))=((i*(2*q+2)+(2*q+2):Nat):Int):=by
  rw[zah (n:=(i:Int)+1) (by omega) (by omega),show(i:Int)+1=((i+1:Nat):Int)by omega,←Int.natCast_mul,Nat.succ_mul];exact zah (by omega) (by omega)
 have eB:(coins.take (i*(2*q+2)+(2*q+2))).drop (i*(2*q+2))=(coins.drop (i*(2*q+2))).take (2*q+2):=by rw[List.drop_take,Nat.add_sub_cancel_left]
 have lB:((coins.drop (i*(2*q+2))).take (2*q+2)).length=2*q+2:=by rw[List.length_take,List.length_drop];omega
 have e0:ix ((coins.drop (i*(2*q+2))).take (2*q+2)) 0=some (svR coins q i):=by
  rw[show(0:Int)=((0:Nat):Int)from rfl,zeH (by omega)];simp[List.getD,svR]
 have hP:=zzq S.k (zro S hi);rw[show(((d.getD i 0).toNat:Nat):Int)=d.getD i 0 by omega]at hP;have hst:=zrr S.k (key:=key) (c:=svC gr key d coins q i) (zlw S.k S.hk _ _) (lo:=0) (hi:=(q:Int)) (n:=q+1) (by omega) (by omega) (by omega);dsimp only;rw[wT,wA,wB,Int.toNat_natCast,Int.toNat_natCast,eB,lB];refine zac (zeH hi) (zak (by omega) (zak (by omega) (zak (by omega) (zac e0 (zac (pwI S.k (r_G S.k) _) (zac (zzu S.k S.hk _ _) (zak (by omega) (zac hm (zac hst ?_)))))))));rw[List.take_of_length_le (Nat.le_of_eq lB)];refine zac hP (zaB rfl (zak (by simp;omega) (zak (by simp;omega) (zac (zrU S.k _) (zab ?_)))));rw[zah (n:=smE d i+d.getD i 0) (by omega) (by omega),zah (n:=srN gr.Q (svR coins q) i+svR coins q i) (by have:=hsr.1;have:=hr.1;omega) (by have:=hsr.2;have:=hr.2;omega),List.range_succ,List.map_append,List.map_append];rfl
theorem zJN(S:SvOk gr key lab d coins q)(voter:Int):zar (σ:=(List Int)×Int×List Cipher×List Proof×List Int×List Int×List Int×Int×Int) (fun i38 s37=>
 (ix d i38).bind fun x44=>
 (ix s37.1 0).bind fun x45=>
 (zgo gr key x44 x45).bind fun z46=>
 gd ((s37.2.2.1.length+1)*16≤140737488355328∧s37.2.2.1.length+1≤4611686018427387904)<|
 gd (0≤(i64.wrap ((i64.wrap (2*(q:Int)))+2)))<|
 gd (1≤(i64.wrap ((i64.wrap (2*(q:Int)))+2)).toNat∧(i64.wrap ((i64.wrap (2*(q:Int)))+2)).toNat≤s37.1.length)<|
 (zbM gr key z46 0 (q:Int)).bind fun z47=>
 (zfi gr lab z47 x44 x45 ((s37.1.take ((i64.wrap ((i64.wrap (2*(q:Int)))+2)).toNat)).drop 1)).bind fun z48=>
 gd ((s37.2.2.2.1.length+1)*72≤140737488355328∧s37.2.2.2.1.length+1≤4611686018427387904)<|
 gd (gr.Q≠0)<|
 gd (0≤(i64.wrap ((i64.wrap (2*(q:Int)))+2)))<|
 gd ((i64.wrap ((i64.wrap (2*(q:Int)))+2)).toNat≤s37.1.length∧s37.1.length≤s37.1.length)<|
 some (.go ((s37.1.take s37.1.length).drop ((i64.wrap ((i64.wrap (2*(q:Int)))+2)).toNat),s37.2.1,s37.2.2.1++[z46],s37.2.2.2.1++[z48],s37.2.2.2.2.1,s37.2.2.2.2.2.1,s37.2.2.2.2.2.2.1,i64.wrap (s37.2.2.2.2.2.2.2.1+x44),(i64.wrap (s37.2.2.2.2.2.2.2.2+x45)).tmod gr.Q))) (fun s37=>(s37.1,s37.2.1,s37.2.2.1,s37.2.2.2.1,s37.2.2.2.2.1,s37.2.2.2.2.2.1,s37.2.2.2.2.2.2.1,s37.2.2.2.2.2.2.2.1,s37.2.2.2.2.2.2.2.2)) (d.length) 0 (coins,voter,[],[],[],[],[],0,0)=some (coins.drop (d.length*(2*q+2)),voter,(List.range d.length).map (svC gr key d coins q),(List.range d.length).map (svP gr key lab d coins q),[],[],[],smE d d.length,srN gr.Q (svR coins q) d.length):=by
 have hp:=S.k.p;have hQ:=S.k.q;have hq:=S.hq;have hn:=S.hn;have hcl:=S.hl.2;refine zhc (fun i=>(coins.drop (i*(2*q+2)),voter,(List.range i).map (svC gr key d coins q),(List.range i).map (svP gr key lab d coins q),[],[],[],smE d i,srN gr.Q (svR coins q) i)) (by rw[Nat.zero_mul];rfl) fun i hi=>?_
 have ha:=zvc S hi;have hd:=zvq S hi;have hr:=zyg S hi;have hsm:=zvv S i (by omega);have hsr:=zyn (Q:=gr.Q) (by omega) (svR coins q) i
 have wT:i64.wrap (i64.wrap (2*(q:Int))+2)=((2*q+2:Nat):Int):=by
  rw[zah (n:=2*(q:Int)) (by omega) (by omega),zah (by omega) (by omega)];omega
 have lB:(coins.drop (i*(2*q+2))).length=coins.length-i*(2*q+2):=List.length_drop
 have e0:ix (coins.drop (i*(2*q+2))) 0=some (svR coins q i):=by
  rw[show(0:Int)=((0:Nat):Int)from rfl,zeH (by omega)];simp[List.getD,svR]
 have hP:=zzE S.k (zro S hi);rw[show(((d.getD i 0).toNat:Nat):Int)=d.getD i 0 by omega]at hP;have hst:=zrx S.k (key:=key) (c:=svC gr key d coins q i) (zlw S.k S.hk _ _) (lo:=0) (hi:=(q:Int)) (n:=q+1) (by omega) (by omega) (by omega);dsimp only;rw[wT,Int.toNat_natCast,lB];refine zac (zeH hi) (zac e0 (zac (zt8 S.k S.hk _ _) (zak (by simp;omega) (zak (by omega) (zak (by omega) (zac hst (zac hP (zak (by simp;omega) (zak (by omega) (zak (by omega) (zak (by omega) (zab ?_))))))))))));rw[←lB,List.take_length,List.drop_drop,zah (n:=smE d i+d.getD i 0) (by omega) (by omega),zah (n:=srN gr.Q (svR coins q) i+svR coins q i) (by have:=hsr.1;have:=hr.1;omega) (by have:=hsr.2;have:=hr.2;omega),Int.tmod_eq_emod_of_nonneg (by have:=hsr.1;have:=hr.1;omega),List.range_succ,List.map_append,List.map_append,show(i+1)*(2*q+2)=i*(2*q+2)+(2*q+2)from Nat.succ_mul _ _];rfl
noncomputable def zli(gr:Group)(key:Int)(d coins:List Int)(q:Nat):Cipher:=⟨pg gr (srN gr.Q (svR coins q) d.length),pg gr (smE d d.length+dl gr key*srN gr.Q (svR coins q) d.length)⟩
theorem zuw(S:SvOk gr key lab d coins q):zli gr key d coins q=⟨pg gr (smL (svR coins q) d.length),pg gr (smE d d.length+dl gr key*smL (svR coins q) d.length)⟩:=by
 have h:=zzL gr.Q (svR coins q) d.length;unfold zli;rw[zqq h,zqq (a:=smE d d.length+dl gr key*srN gr.Q (svR coins q) d.length) (b:=smE d d.length+dl gr key*smL (svR coins q) d.length) (by rw[Int.add_emod,Int.mul_emod,h,←Int.mul_emod,←Int.add_emod])]
theorem zzr(k:OkG gr)(a b c d:Int):zdI gr ⟨pg gr a,pg gr b⟩ ⟨pg gr c,pg gr d⟩=some ⟨pg gr (a+c),pg gr (b+d)⟩:=by
 unfold zdI;dsimp only;rw[m2I k (x:=pg gr a) (y:=pg gr c) (zc5 k _ _) (zc5 k _ _),Option.bind_some,m2I k (x:=pg gr b) (y:=pg gr d) (zc5 k _ _) (zc5 k _ _),Option.bind_some,zdY k,zdY k]
theorem zzP(S:SvOk gr key lab d coins q):zbl gr ((List.range d.length).map (svC gr key d coins q))=some (zli gr key d coins q):=by
 rw[zuw S];unfold zbl
 have h:=zhc (σ:=Int×Int) (γ:=Int×Int) (n:=((List.range d.length).map (svC gr key d coins q)).length) (stop:=fun s13=>(s13.1,s13.2)) (s0:=(1,1)) (body:=fun i14 s13=>
  (ix ((List.range d.length).map (svC gr key d coins q)) i14).bind fun x20=>
  (zdI gr (Cipher.mk s13.1 s13.2) x20).bind fun z21=>
  some (.go (z21.A,z21.B))) (fun i=>(pg gr (smL (svR coins q) i),pg gr (smE d i+dl gr key*smL (svR coins q) i))) (by
   show _=(pg gr 0,pg gr (0+dl gr key*0))
   rw[Int.mul_zero,Int.add_zero,zrO S.k]) fun i hi=>by
  refine zaK hi ?_;rw[List.getElem_map,List.getElem_range];unfold svC;rw[zpe S.k S.hk];refine zac (zzr S.k _ _ _ _) (zab ?_);dsimp only;rw[show smE d (i+1)=smE d i+d.getD i 0 from rfl,show smL (svR coins q) (i+1)=smL (svR coins q) i+svR coins q i from rfl,show smE d i+dl gr key*smL (svR coins q) i+(d.getD i 0+dl gr key*svR coins q i)=smE d i+d.getD i 0+dl gr key*(smL (svR coins q) i+svR coins q i)by rw[Int.mul_add];omega]
 rw[h];simp
theorem zGV(S:SvOk gr key lab d coins q):ze1 gr ((List.range d.length).map (svC gr key d coins q))=some (zli gr key d coins q):=by
 rw[zuw S];unfold ze1
 have h:=zhc (σ:=Int×Int) (γ:=Int×Int) (n:=((List.range d.length).map (svC gr key d coins q)).length) (stop:=fun s14=>(s14.1,s14.2)) (s0:=(1,1)) (body:=fun i15 s14=>
  (ix ((List.range d.length).map (svC gr key d coins q)) i15).bind fun x21=>
  (zbC gr [s14.1,x21.A]).bind fun z22=>
  (zbC gr [s14.2,x21.B]).bind fun z23=>
  some (.go (z22,z23))) (fun i=>(pg gr (smL (svR coins q) i),pg gr (smE d i+dl gr key*smL (svR coins q) i))) (by
   show _=(pg gr 0,pg gr (0+dl gr key*0))
   rw[Int.mul_zero,Int.add_zero,zrO S.k]) fun i hi=>by
  refine zaK hi ?_;rw[List.getElem_map,List.getElem_range];unfold svC;rw[zpe S.k S.hk];refine zac (m2S S.k (zc5 S.k _ _) (zc5 S.k _ _)) (zac (m2S S.k (zc5 S.k _ _) (zc5 S.k _ _)) (zab ?_));show Stp.go (zcW gr [pg gr _,pg gr _],zcW gr [pg gr _,pg gr _])=_;rw[zdY S.k,zdY S.k,show smE d (i+1)=smE d i+d.getD i 0 from rfl,show smL (svR coins q) (i+1)=smL (svR coins q) i+svR coins q i from rfl,show smE d i+dl gr key*smL (svR coins q) i+(d.getD i 0+dl gr key*svR coins q i)=smE d i+d.getD i 0+dl gr key*(smL (svR coins q) i+svR coins q i)by rw[Int.mul_add];omega]
 rw[h];simp
end
theorem zvT{gr:Group}{s:ByteArray}{l:List EqualLog}{m:Nat}{x:Int}{coins:List Int}(k:OkG gr)(O:OoOk gr s l m x coins)(w:Int):∀i,i≤l.length→∀z∈(ooN gr l m w coins i).2.2.1,E9 gr.Q z
 |0,_=>by intro z hz;simp[ooN]at hz
 |i+1,hi=>by
  have h2:=zvT k O w i (by omega);have hq:=k.q;have hnx:=zpV gr l m w coins i
  have hc:i≠m→(ooN gr l m w coins i).2.2.2+1<coins.length:=fun e=>by
   have:=O.cl;have:=O.hm;rw[hnx];split<;>omega
  rw[ooN];by_cases e:i=m
  ·rw[if_pos e];refine apL h2 fun z hz=>?_
   rw[List.mem_singleton]at hz;subst hz;exact⟨Int.le_refl 0,by omega⟩
  ·rw[if_neg e];refine apL h2 fun z hz=>?_
   rw[List.mem_singleton]at hz;subst hz;exact zhX O.hc (by have:=hc e;omega)
structure PrOk (p:Proof):Prop where
 a:p.Commits.length≤16
 b:p.Challenges.length≤8
 c:p.Responses.length≤8
 d:(zfG p).all zbE=true
theorem zwo{p:Proof}(a:p.Commits.length≤16)(b:p.Challenges.length≤8)(c:p.Responses.length≤8)(d:∀z∈p.Commits,R9 z)(e:∀z∈p.Challenges,R9 z)(f:∀z∈p.Responses,R9 z):PrOk p:=by
 refine⟨a,b,c,?_⟩
 have h:∀l:List Int,l.length≤16→(∀z∈l,R9 z)→(zbs l).all zbE=true:=fun l hl hz=>by
  unfold zbs;rw[List.all_cons,znX hz,Bool.and_true];exact zd9.2 (by omega)
 unfold zfG;rw[List.all_append,List.all_append,h _ a d,h _ (by omega) e,h _ (by omega) f];rfl
theorem e_r{gr:Group}(k:OkG gr){z:Int}(h:E9 gr.Q z):R9 z:=⟨h.1,by have:=h.2;have:=k.q;have:=k.p;omega⟩
theorem zzN{gr:Group}{s:ByteArray}{l:List EqualLog}{m:Nat}{x:Int}{coins:List Int}(k:OkG gr)(O:OoOk gr s l m x coins):PrOk (ooV gr s l m x coins):=by
 have hq:=k.q;have hn:=O.hn;obtain⟨l1,l2,l3⟩:=zjx gr l m (coins.getD (coins.length-1) 0) coins l.length;obtain⟨g1,g2⟩:=zph k O (coins.getD (coins.length-1) 0) l.length (Nat.le_refl _);have g3:=zvT k O (coins.getD (coins.length-1) 0) l.length (Nat.le_refl _);have hs:∀{L:List Int}{y:Int},(∀z∈L,E9 gr.Q z)→E9 gr.Q y→∀z∈L.set m y,R9 z:=fun h hy z hz=>e_r k ((List.mem_or_eq_of_mem_set hz).elim (h z) fun e=>e▸hy)
 unfold ooV;refine zwo (by show(ooN gr l m (coins.getD (coins.length-1) 0) coins l.length).1.length≤16;omega) ?_ ?_ g1 (hs g2 (zj3 (by omega) _)) (hs g3 (zj3 (by omega) _))
 ·show(List.set _ _ _).length≤8;rw[List.length_set];omega
 show(List.set _ _ _).length≤8;rw[List.length_set];omega
theorem zxo{d:List Int}:∀n,n≤d.length→smE d n=(d.take n).sum
 |0,_=>rfl
 |n+1,h=>by
  show smE d n+d.getD n 0=_;rw[zxo n (by omega),List.take_succ_eq_append_getElem (show n<d.length by omega),List.sum_append,zkj (show n<d.length by omega)];simp
theorem zuV{gr:Group}{ct:Contest}(h:zb4 gr ct=some true)(kg:OkG gr)(kc:OkC ct)(hf:zbG ct=true):ct.Most-ct.Least<8:=by
 have lo:=kc.lo;have b:=zii kc hf;have hm:ct.Options*zcA ct≤8*5:=Int.mul_le_mul b.1.2 b.2.1.2 (by omega) (by omega);obtain⟨n,h1,_⟩:=zpG kc;unfold zb4 at h;rw[zks,ziP,zjV.2 kg,zl5.2 kc]at h;simp only[h1,zif,Bool.not_true,Bool.false_eq_true,if_false,Option.bind_some,zfq]at h;rw[show(ct.Kind==1||ct.Kind==2)=zbG ct from rfl,hf,zah (n:=ct.Most-ct.Least) (by omega) (by omega)]at h;by_cases hh:ct.Most-ct.Least<8
 ·exact hh
 have e:decide (ct.Most-ct.Least<8)=false:=decide_eq_false hh;rw[e]at h;cases hc:(decide (100000<n)||decide (gr.Q≤n))<;>rw[hc]at h<;>cases h
structure SeOk (x:Sealed):Prop where
 v:0≤x.Voter∧x.Voter≤999999
 n:x.Ciphers.length≤8
 c:∀z∈x.Ciphers,R9 z.A∧R9 z.B
 m:x.Proofs.length≤8
 p:∀z∈x.Proofs++[x.Sum],PrOk z
theorem zmi(a:Int):zeT a=some (inB 0 999999 a):=by
 unfold zeT;rw[zsV];rfl
noncomputable def seV(gr:Group)(key:Int)(lab:ByteArray)(d coins:List Int)(q:Nat)(voter lo:Int)(n:Nat):Sealed:=
 ⟨voter,(List.range d.length).map (svC gr key d coins q),(List.range d.length).map (svP gr key lab d coins q),ooV gr lab (stV gr key (zli gr key d coins q) lo n) (smE d d.length-lo).toNat (srN gr.Q (svR coins q) d.length) (coins.drop (d.length*(2*q+2)))⟩
theorem zDr{gr:Group}(k:OkG gr){key:Int}(hk:zaq gr key=true)(e r:Int):R9 (cK gr key e r).A∧R9 (cK gr key e r).B:=by
 rw[zpe k hk];exact⟨zc5 k gr.G _,zc5 k gr.G _⟩
theorem zHc{gr:Group}{key:Int}{lab:ByteArray}{d coins:List Int}{q:Nat}(S:SvOk gr key lab d coins q){voter lo:Int}{n:Nat}(hv:0≤voter∧voter≤999999)(O:OoOk gr lab (stV gr key (zli gr key d coins q) lo n) (smE d d.length-lo).toNat (srN gr.Q (svR coins q) d.length) (coins.drop (d.length*(2*q+2)))):SeOk (seV gr key lab d coins q voter lo n):=by
 have hn:=S.hn;refine⟨hv,by simpa[seV]using hn,?_,by simpa[seV]using hn,fun z hz=>?_⟩
 ·intro z hz;obtain⟨i,_,rfl⟩:=List.mem_map.1 hz;exact zDr S.k S.hk _ _
 rcases List.mem_append.1 hz with hz|hz
 ·obtain⟨i,hi,rfl⟩:=List.mem_map.1 hz;exact zzN S.k (zro S (List.mem_range.1 hi))
 rw[List.mem_singleton.1 hz];exact zzN S.k O
structure SeHn (gr:Group) (key:Int) (ct:Contest) (voter:Int) (v coins:List Int) (x:Sealed):Prop where
 g:zb4 gr ct=some true
 kg:OkG gr
 kc:OkC ct
 hk:zaq gr key=true
 h2:0≤voter∧voter≤999999
 h3:zc6 ct v=true
 hc:∀z∈coins,E9 gr.Q z
 e:(zbG ct=false∧∃u0 u1,coins=[u0,u1]∧x=⟨voter,[cK gr key (zfm ct v) u0],[zhR gr (zcE voter) u0 u1],⟨[],[],[]⟩⟩)∨
  (zbG ct=true∧∃q:Nat,zcA ct=(q:Int)∧SvOk gr key (zcE voter) (zck ct v) coins q∧OoOk gr (zcE voter) (stV gr key (zli gr key (zck ct v) coins q) ct.Least (ct.Most-ct.Least+1).toNat) (smE (zck ct v) (zck ct v).length-ct.Least).toNat (srN gr.Q (svR coins q) (zck ct v).length) (coins.drop ((zck ct v).length*(2*q+2)))∧x=seV gr key (zcE voter) (zck ct v) coins q voter ct.Least (ct.Most-ct.Least+1).toNat)
theorem zuf(gr:Group)(key:Int)(ct:Contest)(voter:Int){v coins:List Int}(hv:v.length≤1048576):∃x,zga gr key ct voter v coins=some x∧zdx gr key ct voter v coins=some x∧(x.2=true→SeOk x.1∧SeHn gr key ct voter v coins x.1):=by
 obtain⟨b,s1,s2,s3⟩:=zj8 gr ct;unfold zga zdx;rw[s1,s2];cases b with
 |false=>exact⟨(⟨0,[],[],⟨[],[],[]⟩⟩,false),rfl,rfl,fun h=>by cases h⟩
 |true=>
  obtain⟨kg,kc⟩:=s3 rfl;have hQ:=kg.q;have hp:=kg.p;have hco:=zsM kc;simp only[zpg kg,zxE kg,zmi,zvm,zoC kc hv,zz7 kc hv,zyo kc,hco.1,zju (gr:=gr) (by omega) (by omega),zn9 (gr:=gr) (by omega) (by omega),Bool.not_true,Bool.false_eq_true,if_false,Option.bind_some,zfq];cases hok:(!zaq gr key||(!inB 0 999999 voter||(!zc6 ct v||((coins.length:Int) !=zma ct|| !coins.all (zdU gr)))))with
  |true=>exact⟨(⟨0,[],[],⟨[],[],[]⟩⟩,false),rfl,rfl,fun h=>by cases h⟩
  |false=>
   simp only[Bool.or_eq_false_iff,Bool.not_eq_false',bne_eq_false_iff_eq]at hok;obtain⟨hk,h2,h3,h4,h5⟩:=hok;have h2:=zbe.1 h2;have hc:∀z∈coins,E9 gr.Q z:=fun z hz=>zf5.1 (List.all_eq_true.1 h5 z hz)
   have hlb:=zth h2.1 h2.2;have hE:=zx9 kc h3;unfold zfx at hE;cases hf:zbG ct with
   |false=>
    rw[hf]at hE
    have hn2:coins.length=2:=by
     unfold zma at h4;rw[hf]at h4;have:(coins.length:Int)=2:=h4;omega
    obtain⟨u0,u1,rfl⟩:∃u0 u1,coins=[u0,u1]:=by
     match coins,hn2 with
     |[a,b],_=>exact⟨a,b,rfl⟩
    have hk1:(ct.Kind==1||ct.Kind==2)=false:=hf;have b0:=hc u0 (by simp);have b1:=hc u1 (by simp)
    have hpk:zc1 gr (zcE voter) gr.G u0 u1=some (zhR gr (zcE voter) u0 u1,true):=by
     rw[zzi gr (by omega),zjV.2 kg,zf5.2 b0,zf5.2 b1];rfl
    have r0:=e_r kg b0;have r1:=e_r kg b1;have hps:=zF0 (gr:=gr) kg.gb (s:=zcE voter) (by omega) (x:=u0) (w:=u1) ⟨r0.1,by have:=r0.2;omega⟩ ⟨r1.1,by have:=r1.2;omega⟩;refine⟨(⟨voter,[cK gr key (zfm ct v) u0],[zhR gr (zcE voter) u0 u1],⟨[],[],[]⟩⟩,true),zaj ?_,zaj ?_,fun _=>⟨⟨h2,by simp,fun z hz=>?_,by simp,fun z hz=>?_⟩,s1,kg,kc,hk,h2,h3,hc,.inl ⟨hf,u0,u1,rfl,rfl⟩⟩⟩
    ·refine zaB rfl (zac (zr5 h2.1 h2.2) (zac hE (zac (zjh ct) (zee (by rw[hk1];rfl) (zac (a:=u0) rfl (zac (a:=u1) rfl (zac hpk (zac (a:=zfm ct v) rfl (zac (pwI kg (r_G kg) _) (zac (zzu kg hk _ _) (zab rfl)))))))))))
    ·refine zaB rfl (zac (a:=(⟨voter,[cK gr key (zfm ct v) u0],[zhR gr (zcE voter) u0 u1],⟨[],[],[]⟩⟩:Sealed)) (zaj ?_) (zab rfl));unfold zfI;exact zac (zsC h2.1 h2.2) (zac (zif ct) (zee (by rw[hk1];rfl) (zac (a:=u0) rfl (zac (zlO kc h3).1 (zac (zt8 kg hk _ _) (zak (by omega) (zak (by simp) (zak (by simp) (zac hps (zak (by omega) (zab rfl)))))))))))
    ·rw[List.mem_singleton.1 hz];exact zDr kg hk _ _
    ·have hz:z=zhR gr (zcE voter) u0 u1∨z=⟨[],[],[]⟩:=by simpa using hz
     rcases hz with rfl|rfl
     ·have he:=zqD kg.gb (zcE voter) u0 u1;refine zwo (by simp[zhR]) (by simp[zhR]) (by simp[zhR]) (fun z hz=>?_) (fun z hz=>?_) fun z hz=>?_
      ·rw[List.mem_singleton.1 hz];exact zc5 kg _ _
      ·rw[List.mem_singleton.1 hz];exact e_r kg he
      ·rw[List.mem_singleton.1 hz];exact e_r kg (zj3 (by omega) _)
     ·exact zwo (by simp) (by simp) (by simp) (by simp) (by simp) (by simp)
   |true=>
    rw[hf]at hE;obtain⟨f1,f2,f3,f4⟩:=zii kc hf;obtain⟨g1,g2,g3,_⟩:=zsj kc hf h3;have hgd:=zuV s1 kg kc hf;have hk1:(ct.Kind==1||ct.Kind==2)=true:=hf;have hm:=zsZ (ct:=ct) (.inl hf);have hbt:=zss ct;have hEx:=zAh kc h3;unfold zfx at hEx;rw[hf]at hEx;rw[if_pos hf]at hm;unfold zma at h4;rw[if_pos hf]at h4;obtain⟨q,hq⟩:∃q:Nat,zcA ct=(q:Int):=⟨(zcA ct).toNat,by omega⟩
    rw[hq]at hm hbt f2 f3 g2 h4;have hE:zbA ct v=some (zck ct v):=hE;have hEx:zgx ct v=some (zck ct v):=hEx;have hdv:∃d,d=zck ct v:=⟨_,rfl⟩
    obtain⟨d,hdv⟩:=hdv;rw[←hdv]at g1 g2 g3 hE hEx;rw[←g1]at h4 f1 f3;have eP:(d.length:Int)*(2*(q:Int)+2)=((d.length*(2*q+2):Nat):Int):=by rw[Int.natCast_mul];rfl
    rw[eP]at h4;have hDq:(d.length:Int)*(q:Int)≤8*5:=Int.mul_le_mul (by omega) (by omega) (by omega) (by omega);have hPb:d.length*(2*q+2)≤8*12:=Nat.mul_le_mul (by omega) (by omega);have S:SvOk gr key (zcE voter) d coins q:=⟨kg,hk,by omega,by omega,by omega,fun z hz=>zbe.1 (List.all_eq_true.1 g2 z hz),by omega,hc⟩
    have hsum:smE d d.length=d.sum:=by rw[zxo _ (Nat.le_refl _),List.take_length]
    have hsr:=zyn (Q:=gr.Q) (by omega) (svR coins q) d.length
    have O:OoOk gr (zcE voter) (stV gr key (zli gr key d coins q) ct.Least (ct.Most-ct.Least+1).toNat) (smE d d.length-ct.Least).toNat (srN gr.Q (svR coins q) d.length) (coins.drop (d.length*(2*q+2))):=by
     refine zzA kg hk rfl (by omega) (by omega) (by omega) (by omega) hsr ?_ fun z hz=>hc z (List.mem_of_mem_drop hz)
     rw[List.length_drop];omega
    have hcs:zcn gr (zli gr key d coins q)=true:=by
     show(zaq gr (pg gr _)&&zaq gr (pg gr _))=true;rw[zhY kg,zhY kg];rfl
    have wE:i64.wrap (smE d d.length-ct.Least)=(((smE d d.length-ct.Least).toNat:Nat):Int):=by rw[zah (by omega) (by omega)];omega
    have wT:i64.wrap ((d.length:Int)*i64.wrap (i64.wrap (2*(q:Int))+2))=((d.length*(2*q+2):Nat):Int):=by
     rw[zah (n:=2*(q:Int)) (by omega) (by omega),zah (n:=2*(q:Int)+2) (by omega) (by omega),eP,zah (by omega) (by omega)]
    refine⟨(seV gr key (zcE voter) d coins q voter ct.Least (ct.Most-ct.Least+1).toNat,true),zaj ?_,zaj ?_,fun _=>⟨zHc S h2 O,s1,kg,kc,hk,h2,h3,hc,.inr ⟨hf,q,hq,hdv▸S,hdv▸O,hdv▸rfl⟩⟩⟩
    ·refine zaB rfl (zac (zr5 h2.1 h2.2) (zac hE (zac (zjh ct) (zaB (by rw[hk1];rfl) (zac hm (zac (zIF S hm voter) ?_))))));show Rn (gd _ _) _;dsimp only;rw[wT,wE,Int.toNat_natCast,List.take_length];exact zak (by omega) (zak (by omega) (zac (zzP S) (zac (zrr kg hcs (by omega) (n:=(ct.Most-ct.Least+1).toNat) (by omega) (by omega)) (zac (zzq kg O) (zaB rfl (zab rfl))))))
    ·refine zaB rfl (zac (a:=seV gr key (zcE voter) d coins q voter ct.Least (ct.Most-ct.Least+1).toNat) (zaj ?_) (zab rfl));unfold zfI;refine zac (zsC h2.1 h2.2) (zac (zif ct) (zaB (by rw[hk1];rfl) (zac hbt (zac hEx (zac (zJN S voter) ?_)))));dsimp only;rw[wE];exact zac (zGV S) (zac (zrx kg hcs (by omega) (n:=(ct.Most-ct.Least+1).toNat) (by omega) (by omega)) (zac (zzE kg O) (zab rfl)))
def zgS(l:List Cipher):List Int:=(l.length:Int)::l.flatMap fun c=>[c.A,c.B]
def zgM(L:List (List Int)):List Int:=(L.length:Int)::L.flatMap zbs
theorem zzR(l:List Cipher):(l.flatMap fun c=>[c.A,c.B]).length=2*l.length:=by
 induction l with
 |nil=>rfl
 |cons e l ih=>show([e.A,e.B]++l.flatMap fun c=>[c.A,c.B]).length=_;rw[List.length_append,ih];simp;omega
theorem zn6(l:List Cipher):(zgS l).length=2*l.length+1:=by unfold zgS;rw[List.length_cons,zzR]
theorem zn5{l:List Cipher}(hl:l.length≤8)(h:∀z∈l,R9 z.A∧R9 z.B):(zgS l).all zbE=true:=by
 unfold zgS;rw[List.all_cons,zd9.2 (show 0≤(l.length:Int)∧(l.length:Int)≤4611686018427387903 by omega),Bool.true_and];refine znX fun z hz=>?_
 obtain⟨c,hc,hz⟩:=List.mem_flatMap.1 hz;simp only[List.mem_cons,List.not_mem_nil,or_false]at hz;rcases hz with rfl|rfl
 ·exact(h c hc).1
 exact(h c hc).2
theorem zsh{l:List Cipher}(hl:l.length≤8):zar (σ:=(List Int)) (fun i5 s4=>
 (ix l i5).bind fun x11=>
 gd ((s4.length+2)*8≤140737488355328∧s4.length+2≤4611686018427387904)<|
 some (.go (s4++[x11.A,x11.B]))) (fun s4=>s4) (l.length) 0 [(l.length:Int)]=some (zgS l):=by
 refine zaj (za3 (fun i s=>s=(l.length:Int)::((l.take i).flatMap fun c=>[c.A,c.B])∧i≤l.length) ⟨rfl,by omega⟩ ?_ fun s h=>by rw[h.1,List.take_length];rfl);rintro i s hi ⟨rfl,_⟩;have hn:=zzR (l.take i);rw[List.length_take]at hn;refine zaK hi (zak (by rw[List.length_cons];omega) (zab ⟨?_,by omega⟩));rw[List.take_succ_eq_append_getElem hi,List.flatMap_append];rfl
theorem zxN{α:Type}{f:α→List Int}{B:Nat}:∀{l:List α},(∀p∈l,(f p).length≤B)→(l.flatMap f).length≤B*l.length
 |[],_=>by simp
 |p::l,h=>by
  have h1:=zxN (l:=l) fun z hz=>h z (List.mem_cons_of_mem _ hz)
  have h2:=h p (by simp);rw[List.flatMap_cons,List.length_append,List.length_cons,Nat.mul_succ];omega
theorem zui(L:List (List Int))(i:Nat):((L.take i).flatMap zbs).length≤(L.flatMap zbs).length:=by
 have h:(L.take i).flatMap zbs++(L.drop i).flatMap zbs=L.flatMap zbs:=by rw[←List.flatMap_append,List.take_append_drop]
 rw[←h,List.length_append];omega
theorem zvY{L:List (List Int)}{i:Nat}(hi:i<L.length):L[i].length+1≤(L.flatMap zbs).length:=by
 have h:=zui L (i+1);rw[List.take_succ_eq_append_getElem hi,List.flatMap_append,List.length_append]at h;have e:([L[i]].flatMap zbs).length=L[i].length+1:=by simp[zbs]
 omega
theorem zt9{L:List (List Int)}(h:(zgM L).length≤400)(hd:(zgM L).all zbE=true):zea L=some (zgM L,true):=by
 have hn:(L.flatMap zbs).length+1≤400:=by simpa[zgM]using h
 unfold zea
 have e:zar (σ:=(List Int)) (β:=(List Int) ⊕ (List Int×Bool)) (fun i5 s4=>(ix L i5).bind fun x11=>(zdk x11).bind fun z12=>
  gd ((s4.length+z12.length)*8≤140737488355328∧s4.length+z12.length≤4611686018427387904)<|
  if decide (400<((s4++z12).length:Int))=true then(some (.out (.inr ([],false))))else(some (.go (s4++z12)))) (fun s4=>.inl s4) (L.length) 0 [(L.length:Int)]=some (.inl (zgM L)):=by
  refine zaj (za3 (fun i s=>s=(L.length:Int)::(L.take i).flatMap zbs∧i≤L.length) ⟨rfl,by omega⟩ ?_ fun s h=>by rw[h.1,List.take_length];rfl);rintro i s hi ⟨rfl,_⟩;have h1:=zui L (i+1);have h2:=zvY hi
  have e1:(L.length:Int)::(L.take i).flatMap zbs++zbs L[i]=(L.length:Int)::(L.take (i+1)).flatMap zbs:=by
   rw[List.take_succ_eq_append_getElem hi,List.flatMap_append];simp
  have e2:=congrArg List.length e1;rw[List.length_append,List.length_cons,List.length_cons]at e2;refine zaK hi (zac (zpn (by omega)) (zak (by rw[List.length_cons];omega) (zaB ?_ (zab ⟨e1,by omega⟩))));rw[List.length_append,List.length_cons];exact decide_eq_false (by omega)
 have hr:zi5 (zgM L)=true:=by unfold zi5;rw[hd,decide_eq_true (by omega)];rfl
 have hrec:zdQ (zgM L)=some (zgM L,true):=by rw[zmo,if_pos hr]
 rw[e,Option.bind_some,Sum.elim_inl,hrec,Option.bind_some]
def zhQ(x:Sealed):List (List Int):=[[x.Voter],zgS x.Ciphers]++(x.Proofs++[x.Sum]).map zfG
def zlg(x:Sealed):List Int:=zgM (zhQ x)
theorem zp9(p:Proof):(zfG p).length=p.Commits.length+p.Challenges.length+p.Responses.length+3:=by simp[zfG,zbs];omega
theorem zqG{x:Sealed}(O:SeOk x):(zlg x).length≤352:=by
 have h1:=zn6 x.Ciphers;have h2:=O.n;have h3:=O.m
 have h4:(((x.Proofs++[x.Sum]).map zfG).flatMap zbs).length≤36*(x.Proofs++[x.Sum]).length:=by
  have:=zxN (f:=zbs) (B:=36) (l:=(x.Proofs++[x.Sum]).map zfG) fun p hp=>by
   obtain⟨z,hz,rfl⟩:=List.mem_map.1 hp;have o:=O.p z hz;have:=o.a;have:=o.b;have:=o.c;have:=zp9 z;show(zfG z).length+1≤36;omega
  rwa [List.length_map]at this
 rw[List.length_append]at h4;unfold zlg zgM zhQ;rw[List.length_cons,List.flatMap_append,List.length_append];have h5:([[x.Voter],zgS x.Ciphers].flatMap zbs).length=2+(2*x.Ciphers.length+2):=by simp[zbs,h1];omega
 have h6:[x.Sum].length=1:=rfl;omega
theorem zAp{l:List Int}(hl:l.length≤1000)(h:l.all zbE=true):(zbs l).all zbE=true:=by
 unfold zbs;rw[List.all_cons,h,zd9.2 (show 0≤(l.length:Int)∧(l.length:Int)≤4611686018427387903 by omega)];rfl
theorem zum{x:Sealed}(O:SeOk x):(zlg x).all zbE=true:=by
 have hl:=zqG O;have hn:((zhQ x).flatMap zbs).length+1≤352:=by simpa[zlg,zgM]using hl
 have hp:∀p∈zhQ x,p.all zbE=true:=by
  intro p hp;rcases List.mem_append.1 hp with hp|hp
  ·simp only[List.mem_cons,List.not_mem_nil,or_false]at hp;rcases hp with rfl|rfl
   ·have:=O.v;simp[zbE];omega
   ·exact zn5 O.n O.c
  ·obtain⟨z,hz,rfl⟩:=List.mem_map.1 hp;exact(O.p z hz).d
 unfold zlg zgM
 have hpl:(zhQ x).length≤11:=by
  have:=O.m;unfold zhQ;simp;omega
 rw[List.all_cons,zd9.2 (show 0≤((zhQ x).length:Int)∧((zhQ x).length:Int)≤4611686018427387903 by omega),Bool.true_and,List.all_flatMap];refine List.all_eq_true.2 fun p hm=>?_
 obtain⟨i,hi,rfl⟩:=List.mem_iff_getElem.1 hm;have:=zvY hi;exact zAp (by omega) (hp _ hm)
theorem zux{x:Sealed}(O:SeOk x):zdK x=some (zlg x,true):=by
 have hl:=zqG O;have hd:=zum O;have hm:=O.m;have hv:inB 0 999999 x.Voter=true:=zbe.2 O.v
 have hc:zb5 x.Ciphers=some (zgS x.Ciphers,true):=by
  unfold zb5;rw[zsh O.n,Option.bind_some,zmo]
  have:zi5 (zgS x.Ciphers)=true:=by
   have:=zn6 x.Ciphers;have:=O.n;unfold zi5;rw[zn5 O.n O.c,decide_eq_true (by omega)];rfl
  rw[this];rfl
 unfold zdK
 have hk:zbz x.Proofs=some x.Proofs:=by
  unfold zbz;rw[zcB (by omega)]
 have hS:=zhc (σ:=(List (List Int))) (γ:=(List (List Int)) ⊕ (List Int×Bool)) (n:=(x.Proofs++[x.Sum]).length) (stop:=fun s13=>.inl s13) (s0:=[[x.Voter],zgS x.Ciphers]) (body:=fun i14 s13=>
  (ix (x.Proofs++[x.Sum]) i14).bind fun x21=>
  (zd3 x21).bind fun z22=>
  if(!z22.2)=true then(
  some (.out (.inr ([],false))))else(
  gd ((s13.length+1)*24≤140737488355328∧s13.length+1≤4611686018427387904)<|
  some (.go (s13++[z22.1])))) (fun i=>[[x.Voter],zgS x.Ciphers]++((x.Proofs++[x.Sum]).take i).map zfG) (by simp) fun i hi=>by
   have o:=O.p _ (List.getElem_mem hi);have oa:=o.a;have ob:=o.b;have oc:=o.c;have e:=zp9 (x.Proofs++[x.Sum])[i];have hr:zi5 (zfG (x.Proofs++[x.Sum])[i])=true:=by unfold zi5;rw[o.d,decide_eq_true (by omega)];rfl
   have he:=zrf (p:=(x.Proofs++[x.Sum])[i]) (by omega) (by omega) (by omega);rw[if_pos hr]at he;have hi2:=hi;rw[List.length_append]at hi2;refine zaK hi (zac he (zaB rfl (zak (by rw[List.length_append,List.length_map,List.length_take,List.length_append];simp at hi2⊢;omega) (zab ?_))));rw[List.take_succ_eq_append_getElem hi,List.map_append,←List.append_assoc];rfl
 rw[List.take_length]at hS;refine zaj (zac hc (zae (ψ:=(· =false)) (zaB rfl (zac (zmi _) (zaB (by rw[hv];rfl) (zab (decide_eq_false (by omega)))))) ?_));rintro _ rfl;refine zaB rfl (zac hk (zak (by omega) (zac hS ?_)));exact zac (zt9 (L:=zhQ x) (by show(zlg x).length≤400;omega) hd) (zab rfl)
structure StOk (gr:Group) (l:List EqualLog):Prop where
 n:1≤l.length∧l.length≤8
 h:∀e∈l,zaq gr e.G1=true∧zaq gr e.Y1=true∧zaq gr e.G2=true∧zaq gr e.Y2=true
def zkt(gr:Group)(l:List EqualLog)(p:Proof)(i:Nat):Bool:=
 !((siV gr (l.getD i q0).G1 (l.getD i q0).Y1 (p.Challenges.getD i 0) (p.Responses.getD i 0) !=p.Commits.getD (2*i) 0)||(siV gr (l.getD i q0).G2 (l.getD i q0).Y2 (p.Challenges.getD i 0) (p.Responses.getD i 0) !=p.Commits.getD (2*i+1) 0))
def zkN(gr:Group)(l:List EqualLog)(p:Proof):Bool:=((p.Commits.length:Int) !=2*(l.length:Int))||(((p.Challenges.length:Int) !=(l.length:Int))||(((p.Responses.length:Int) !=(l.length:Int))||(!p.Commits.all (zaq gr)||(!p.Challenges.all (zdU gr)|| !p.Responses.all (zdU gr)))))
def zjJ(gr:Group)(s:ByteArray)(l:List EqualLog)(p:Proof):Bool:= !zkN gr l p&&(((List.range l.length).all (zkt gr l p))&&(smN gr.Q p.Challenges p.Challenges.length==chG gr s (flE l++p.Commits)))
section
variable {gr:Group}
theorem zDn(k:OkG gr){g y c:Int}(hg:zaq gr g=true)(hy:zaq gr y=true)(hc:zaq gr c=true)(e z:Int):zao gr g z=zcW gr [c,zao gr y e]↔siV gr g y e z=c:=by
 have h1:=zi6 k hg;have h2:=zi6 k hy;have h3:=zi6 k hc;generalize dl gr g=a at h1;generalize dl gr y=b at h2;generalize dl gr c=d at h3;subst h1 h2 h3;unfold siV;rw[zge k,zge k,zge k,zdY k,zdY k];have e1:d+b*e+b*(0-e)=d:=by rw[Int.mul_sub];omega
 have e2:a*z+b*(0-e)+b*e=a*z:=by rw[Int.mul_sub];omega
 constructor
 ·intro h;rw[←zdY k,h,zdY k,e1]
 intro h;rw[←zdY k,←h,zdY k,e2]
theorem zBV(k:OkG gr){g y c:Int}(hg:zaq gr g=true)(hy:zaq gr y=true)(hc:zaq gr c=true)(e z:Int):(zao gr g z !=zcW gr [c,zao gr y e])=(siV gr g y e z !=c):=by
 have h:=zDn k hg hy hc e z;rw[Bool.eq_iff_iff,bne_iff_ne,bne_iff_ne];exact⟨fun a b=>a (h.2 b),fun a b=>a (h.1 b)⟩
theorem zwi{l:List EqualLog}{p:Proof}(h:zkN gr l p=false):(p.Commits.length=2*l.length∧p.Challenges.length=l.length∧p.Responses.length=l.length)∧p.Commits.all (zaq gr)=true∧p.Challenges.all (zdU gr)=true∧p.Responses.all (zdU gr)=true:=by
 unfold zkN at h;simp only[Bool.or_eq_false_iff,bne_eq_false_iff_eq,Bool.not_eq_false']at h;exact⟨⟨by omega,by omega,by omega⟩,h.2.2.2⟩
theorem zuO(k:OkG gr){l:List EqualLog}(h:∀e∈l,zaq gr e.G1=true∧zaq gr e.Y1=true∧zaq gr e.G2=true∧zaq gr e.Y2=true){S:List Int}(hS:∀z∈S,R9 z):(flE l++S).all zbE=true:=by
 rw[List.all_append,znX hS,Bool.and_true];refine znX fun z hz=>?_
 obtain⟨e,he,hz⟩:=List.mem_flatMap.1 hz;obtain⟨h1,h2,h3,h4⟩:=h e he;simp only[List.mem_cons,List.not_mem_nil,or_false]at hz;rcases hz with rfl|rfl|rfl|rfl
 ·exact zcr k h1
 ·exact zcr k h2
 ·exact zcr k h3
 exact zcr k h4
theorem zBX(k:OkG gr){l:List EqualLog}(S:StOk gr l)(p:Proof):zen gr l p=some (!zkN gr l p&&(List.range l.length).all (zkt gr l p)):=by
 have hp:=k.p;have hq:=k.q;have hn:=S.n;unfold zen;rw[zah (n:=2*(l.length:Int)) (by omega) (by omega)];simp only[zmg k,zju (gr:=gr) (by omega) (by omega),Option.bind_some,zfq];rw[show(((p.Commits.length:Int) !=2*(l.length:Int))||(((p.Challenges.length:Int) !=(l.length:Int))||(((p.Responses.length:Int) !=(l.length:Int))||(!p.Commits.all (zaq gr)||(!p.Challenges.all (zdU gr)|| !p.Responses.all (zdU gr))))))=zkN gr l p from rfl];cases hg:zkN gr l p with
 |true=>rfl
 |false=>
  obtain⟨⟨l1,l2,l3⟩,c1,c2,c3⟩:=zwi hg;rw[if_neg (by simp),zkC (zkt gr l p) false true fun i hi=>?_]
  ·cases (List.range l.length).all (zkt gr l p)<;>rfl
  ·have he:=S.h _ (List.getElem_mem hi);have hc:E9 gr.Q (p.Challenges.getD i 0):=zf5.1 (zhX (P:=fun z=>zdU gr z=true) (List.all_eq_true.1 c2) (by omega));have w1:i64.wrap (2*(i:Int))=((2*i:Nat):Int):=wNL (by omega) (by omega);have w2:i64.wrap (((2*i:Nat):Int)+1)=((2*i+1:Nat):Int):=wNL (by omega) (by omega);rw[zbB hi,Option.bind_some,zeH (show i<p.Challenges.length by omega),Option.bind_some,zeH (show i<p.Responses.length by omega),Option.bind_some,zxk k he hc,Option.bind_some,w1,w2,zeH (show 2*i<p.Commits.length by omega),Option.bind_some,zeH (show 2*i+1<p.Commits.length by omega),Option.bind_some,zfq,Option.bind_some,zl8];unfold zkt;rw[zk1 hi]
theorem zul(k:OkG gr){s:ByteArray}(hs:s.size≤40){l:List EqualLog}(S:StOk gr l)(p:Proof):zbU gr s l p=some (zjJ gr s l p):=by
 have hp:=k.p;have hq:=k.q;have hn:=S.n;unfold zbU zjJ;rw[zBX k S,Option.bind_some];cases hg:zkN gr l p with
 |true=>rfl
 |false=>
  cases ha:(List.range l.length).all (zkt gr l p)with
  |false=>rfl
  |true=>
   obtain⟨⟨l1,l2,l3⟩,c1,c2,c3⟩:=zwi hg;have hfl:=znq l
   have hch:zbb gr s l p.Commits=some (chG gr s (flE l++p.Commits),true):=by
    unfold zbb;rw[znK (by omega)];exact zaj (zac rfl (zak (by omega) (zac (chL k hs (by rw[List.length_append];omega) (zuO k S.h (zig k c1))).1 (zab rfl))))
   have hsm:=(zsP (q:=gr.Q) (l:=p.Challenges) (by omega) fun z hz=>zf5.1 (List.all_eq_true.1 c2 z hz)).1;exact zaj (zaB rfl (zac hch (zac (a:=smN gr.Q p.Challenges p.Challenges.length==chG gr s (flE l++p.Commits)) (zaj (zee rfl (zac hsm (zab rfl)))) (zab rfl))))
theorem zuL(k:OkG gr){s:ByteArray}(hs:s.size≤40){l:List EqualLog}(S:StOk gr l)(p:Proof):zdu gr s l p=some (zjJ gr s l p):=by
 have hp:=k.p;have hq:=k.q;have hn:=S.n;unfold zdu zjJ;rw[zah (n:=2*(l.length:Int)) (by omega) (by omega)];simp only[zrz k,zn9 (gr:=gr) (by omega) (by omega),Option.bind_some,zfq];rw[show(((p.Commits.length:Int) !=2*(l.length:Int))||(((p.Challenges.length:Int) !=(l.length:Int))||(((p.Responses.length:Int) !=(l.length:Int))||(!p.Commits.all (zaq gr)||(!p.Challenges.all (zdU gr)|| !p.Responses.all (zdU gr))))))=zkN gr l p from rfl];cases hg:zkN gr l p with
 |true=>rfl
 |false=>
  obtain⟨⟨l1,l2,l3⟩,c1,c2,c3⟩:=zwi hg;have hfl:=znq l
  have hch:zeA gr s l p.Commits=some (chG gr s (flE l++p.Commits)):=by
   unfold zeA;rw[znK (by omega)];exact zaj (zac rfl (zak (by omega) (zac (chL k hs (by rw[List.length_append];omega) (zuO k S.h (zig k c1))).2 (zab rfl))))
  have hsm:=(zsP (q:=gr.Q) (l:=p.Challenges) (by omega) fun z hz=>zf5.1 (List.all_eq_true.1 c2 z hz)).2;rw[if_neg (by simp),hsm,Option.bind_some,hch,Option.bind_some];have e:(smN gr.Q p.Challenges p.Challenges.length !=chG gr s (flE l++p.Commits))= !(smN gr.Q p.Challenges p.Challenges.length==chG gr s (flE l++p.Commits)):=rfl;rw[e];cases (smN gr.Q p.Challenges p.Challenges.length==chG gr s (flE l++p.Commits))with
  |false=>rw[if_pos (show(!false)=true from rfl),Bool.and_false,Bool.and_false]
  |true=>
   rw[if_neg (by simp),zkC (zkt gr l p) false true fun i hi=>?_]
   ·cases (List.range l.length).all (zkt gr l p)<;>rfl
   ·obtain⟨h1,h2,h3,h4⟩:=S.h _ (List.getElem_mem hi);have hcm:∀j,j<p.Commits.length→zaq gr (p.Commits.getD j 0)=true:=fun j hj=>zhX (P:=fun z=>zaq gr z=true) (List.all_eq_true.1 c1) hj
    have w1:i64.wrap (2*(i:Int))=((2*i:Nat):Int):=wNL (by omega) (by omega);have w2:i64.wrap (((2*i:Nat):Int)+1)=((2*i+1:Nat):Int):=wNL (by omega) (by omega);have m1:=m2S k (zcr k (hcm (2*i) (by omega))) (zc5 k l[i].Y1 (p.Challenges.getD i 0));have m2:=m2S k (zcr k (hcm (2*i+1) (by omega))) (zc5 k l[i].Y2 (p.Challenges.getD i 0));rw[zbB hi,Option.bind_some,zeH (show i<p.Challenges.length by omega),Option.bind_some,zeH (show i<p.Responses.length by omega),Option.bind_some,w1,w2,zeH (show 2*i<p.Commits.length by omega),Option.bind_some,pwS k (zcr k h1),Option.bind_some,pwS k (zcr k h2),Option.bind_some,m1,Option.bind_some,zeH (show 2*i+1<p.Commits.length by omega),Option.bind_some,pwS k (zcr k h3),Option.bind_some,pwS k (zcr k h4),Option.bind_some,m2,Option.bind_some,zBV k h1 h2 (hcm _ (by omega)),zBV k h3 h4 (hcm _ (by omega)),zfq,Option.bind_some,zl8];unfold zkt;rw[zk1 hi]
end
noncomputable def zml(gr:Group)(l:List Cipher):Cipher:=⟨pg gr (smL (fun i=>dl gr (l.getD i ⟨0,0⟩).A) l.length),pg gr (smL (fun i=>dl gr (l.getD i ⟨0,0⟩).B) l.length)⟩
def wdt(ct:Contest):Int:=if zbG ct=true then ct.Options else 1
def zoX(p:Proof):Bool:=((p.Commits.length:Int)==0)&&(((p.Challenges.length:Int)==0)&&((p.Responses.length:Int)==0))
def zkF(gr:Group)(ct:Contest)(x:Sealed):Bool:= !inB 0 999999 x.Voter||(((x.Ciphers.length:Int) !=wdt ct)||(((x.Proofs.length:Int) !=wdt ct)|| !(decide (x.Ciphers.length≤24)&&x.Ciphers.all (zcn gr))))
noncomputable def seB(gr:Group)(key:Int)(ct:Contest)(x:Sealed):Bool:= !zkF gr ct x&&
 if zbG ct=true then(List.range x.Ciphers.length).all (fun i=>zjJ gr (zcE x.Voter) (stV gr key (x.Ciphers.getD i ⟨0,0⟩) 0 ((zcA ct).toNat+1)) (x.Proofs.getD i ⟨[],[],[]⟩))&&zjJ gr (zcE x.Voter) (stV gr key (zml gr x.Ciphers) ct.Least (ct.Most-ct.Least+1).toNat) x.Sum
 else zoX x.Sum&&zmd gr (zcE x.Voter) [[gr.G]] [(x.Ciphers.getD 0 ⟨0,0⟩).A] (x.Proofs.getD 0 ⟨[],[],[]⟩)
def seN(x:Sealed):Prop:=(∀p∈x.Proofs,p.Commits.length≤1048576)∧x.Sum.Commits.length≤1048576∧x.Sum.Challenges.length≤1048576∧x.Sum.Responses.length≤1048576
section
variable {gr:Group}
variable{ct:Contest}
theorem zET(k:OkG gr){c:Cipher}(h:zcn gr c=true):c=⟨pg gr (dl gr c.A),pg gr (dl gr c.B)⟩:=by
 simp only[zcn,Bool.and_eq_true]at h;obtain⟨a,b⟩:=c;rw[←zi6 k h.1,←zi6 k h.2]
theorem zgv{α:Type}{l:List α}{d:α}{i:Nat}(hi:i<l.length):l.getD i d=l[i]:=by simp[List.getD,hi]
theorem zI3(k:OkG gr)(a b:Int):zcn gr ⟨pg gr a,pg gr b⟩=true:=by
 show(zaq gr (pg gr a)&&zaq gr (pg gr b))=true;rw[zhY k,zhY k];rfl
theorem zxe(k:OkG gr){l:List Cipher}(h:l.all (zcn gr)=true):zbl gr l=some (zml gr l):=by
 unfold zbl
 refine zaj (zac (zhc (σ:=Int×Int) (γ:=Int×Int) (n:=l.length) (stop:=fun s13=>(s13.1,s13.2)) (s0:=(1,1)) (fun i=>(pg gr (smL (fun i=>dl gr (l.getD i ⟨0,0⟩).A) i),pg gr (smL (fun i=>dl gr (l.getD i ⟨0,0⟩).B) i))) (by
  show _=(pg gr 0,pg gr 0)
  rw[zrO k]) fun i hi=>?_) (zab rfl))
 have hc:=zET k (List.all_eq_true.1 h _ (List.getElem_mem hi));refine zaK hi ?_;rw[show smL (fun i=>dl gr (l.getD i ⟨0,0⟩).A) (i+1)=smL (fun i=>dl gr (l.getD i ⟨0,0⟩).A) i+dl gr (l.getD i ⟨0,0⟩).A from rfl,show smL (fun i=>dl gr (l.getD i ⟨0,0⟩).B) (i+1)=smL (fun i=>dl gr (l.getD i ⟨0,0⟩).B) i+dl gr (l.getD i ⟨0,0⟩).B from rfl,zgv hi];generalize l[i]=c at hc⊢
 exact zac (a:=⟨pg gr (smL (fun i=>dl gr (l.getD i ⟨0,0⟩).A) i+dl gr c.A),pg gr (smL (fun i=>dl gr (l.getD i ⟨0,0⟩).B) i+dl gr c.B)⟩) (by
  conv=>lhs;rw[hc]
  exact zzr k _ _ _ _) (zab rfl)
theorem zCR(k:OkG gr){l:List Cipher}(h:l.all (zcn gr)=true):ze1 gr l=some (zml gr l):=by
 unfold ze1
 refine zaj (zac (zhc (σ:=Int×Int) (γ:=Int×Int) (n:=l.length) (stop:=fun s14=>(s14.1,s14.2)) (s0:=(1,1)) (fun i=>(pg gr (smL (fun i=>dl gr (l.getD i ⟨0,0⟩).A) i),pg gr (smL (fun i=>dl gr (l.getD i ⟨0,0⟩).B) i))) (by
  show _=(pg gr 0,pg gr 0)
  rw[zrO k]) fun i hi=>?_) (zab rfl))
 have hc:=List.all_eq_true.1 h _ (List.getElem_mem hi);simp only[zcn,Bool.and_eq_true]at hc;refine zaK hi ?_;rw[show smL (fun i=>dl gr (l.getD i ⟨0,0⟩).A) (i+1)=smL (fun i=>dl gr (l.getD i ⟨0,0⟩).A) i+dl gr (l.getD i ⟨0,0⟩).A from rfl,show smL (fun i=>dl gr (l.getD i ⟨0,0⟩).B) (i+1)=smL (fun i=>dl gr (l.getD i ⟨0,0⟩).B) i+dl gr (l.getD i ⟨0,0⟩).B from rfl,zgv hi];refine zac (m2S k (zc5 k gr.G _) (zcr k hc.1)) (zac (m2S k (zc5 k gr.G _) (zcr k hc.2)) (zab ?_));rw[←zdY k,←zdY k,←zi6 k hc.1,←zi6 k hc.2]
theorem zn8(k:OkG gr)(l:List Cipher):zcn gr (zml gr l)=true:=zI3 k _ _
theorem zrD(k:OkG gr){key:Int}(hk:zaq gr key=true){c:Cipher}(hc:zcn gr c=true){lo:Int}{n:Nat}(hn:1≤n∧n≤8):StOk gr (stV gr key c lo n):=by
 have hl:=zlT gr key c lo n;refine⟨by omega,fun e he=>?_⟩;unfold stV at he;obtain⟨i,_,rfl⟩:=List.mem_map.1 he;have hcc:=hc;simp only[zcn,Bool.and_eq_true]at hcc;refine⟨zfc k,hcc.1,hk,?_⟩;show zaq gr (zcW gr [c.B,pg gr _])=true;rw[zi6 k hcc.2,zdY k];exact zhY k _
theorem zzo(ct:Contest):zdf ct=some (wdt ct):=by
 unfold zdf wdt;rw[zjh,show(ct.Kind==1||ct.Kind==2)=zbG ct from rfl,Option.bind_some];cases zbG ct<;>rfl
theorem zCO(ct:Contest):zf2 ct=some (wdt ct):=by
 unfold zf2 wdt;rw[zif,show(ct.Kind==1||ct.Kind==2)=zbG ct from rfl,Option.bind_some];cases zbG ct<;>rfl
theorem zGA(p:Proof):zew p=some (zoX p):=by
 unfold zew;rw[zkp,zkp];rfl
theorem zAK{p:Proof}(h1:p.Commits.length≤1048576)(h2:p.Challenges.length≤1048576)(h3:p.Responses.length≤1048576):zhy p=some (zoX p):=by
 unfold zhy zoX;rw[zah (n:=(p.Commits.length:Int)+(p.Challenges.length:Int)) (by omega) (by omega),zah (n:=(p.Commits.length:Int)+(p.Challenges.length:Int)+(p.Responses.length:Int)) (by omega) (by omega)];congr 1;rw[Bool.eq_iff_iff];simp only[Bool.and_eq_true,beq_iff_eq];omega
theorem zx0{x:Sealed}(h:zkF gr ct x=false):(0≤x.Voter∧x.Voter≤999999)∧(x.Ciphers.length:Int)=wdt ct∧(x.Proofs.length:Int)=wdt ct∧x.Ciphers.all (zcn gr)=true:=by
 unfold zkF at h;simp only[Bool.or_eq_false_iff,bne_eq_false_iff_eq,Bool.not_eq_false',Bool.and_eq_true]at h;exact⟨zbe.1 h.1,h.2.1,h.2.2.1,h.2.2.2.2⟩
theorem zBY(k:OkG gr){key:Int}(hk:zaq gr key=true)(kc:OkC ct)(hgd:zbG ct=true→ct.Most-ct.Least<8){x:Sealed}(hx:seN x):zd4 gr key ct x=some (seB gr key ct x):=by
 unfold zd4 seB;simp only[zzo,zmi,znn k,Option.bind_some,zfq];rw[show(!inB 0 999999 x.Voter||(((x.Ciphers.length:Int) !=wdt ct)||(((x.Proofs.length:Int) !=wdt ct)|| !(decide (x.Ciphers.length≤24)&&x.Ciphers.all (zcn gr)))))=zkF gr ct x from rfl];cases hg:zkF gr ct x with
 |true=>rfl
 |false=>
  obtain⟨hv,hn,hm,hc⟩:=zx0 hg;have hlb:=zth hv.1 hv.2;rw[if_neg (by simp),zr5 hv.1 hv.2,Option.bind_some,zjh,show(ct.Kind==1||ct.Kind==2)=zbG ct from rfl,Option.bind_some];cases hf:zbG ct with
  |false=>
   unfold wdt at hn hm;rw[hf]at hn hm;have hn:(x.Ciphers.length:Int)=1:=hn;have hm:(x.Proofs.length:Int)=1:=hm;have hc0:=List.all_eq_true.1 hc _ (List.getElem_mem (show 0<x.Ciphers.length by omega));have hca:=hc0;simp only[zcn,Bool.and_eq_true]at hca;have e1:ix x.Ciphers 0=some (x.Ciphers.getD 0 ⟨0,0⟩):=by rw[show(0:Int)=((0:Nat):Int)from rfl,zbB (show 0<x.Ciphers.length by omega),zgv (show 0<x.Ciphers.length by omega)]
   have e2:ix x.Proofs 0=some (x.Proofs.getD 0 ⟨[],[],[]⟩):=by rw[show(0:Int)=((0:Nat):Int)from rfl,zbB (show 0<x.Proofs.length by omega),zgv (show 0<x.Proofs.length by omega)]
   have hv:=zxg k (s:=zcE x.Voter) (by omega) (zoY (zfc k)) (im:=[(x.Ciphers.getD 0 ⟨0,0⟩).A]) rfl (by rw[zgv (show 0<x.Ciphers.length by omega)];simp[hca.1]) (p:=x.Proofs.getD 0 ⟨[],[],[]⟩) (by rw[zgv (show 0<x.Proofs.length by omega)];exact hx.1 _ (List.getElem_mem _));rw[if_pos (show(!false)=true from rfl),zGA,Option.bind_some,e1,e2,Option.bind_some,Option.bind_some,hv,Option.bind_some];cases zoX x.Sum<;>rfl
  |true=>
   obtain⟨f1,f2,f3,f4⟩:=zii kc hf;have hgd:=hgd hf;have hDq:ct.Options*zcA ct≤8*5:=Int.mul_le_mul (by omega) (by omega) (by omega) (by omega);have hmo:=zsZ (ct:=ct) (.inl hf);rw[if_pos hf]at hmo
   have hk2:(zbl gr x.Ciphers).bind (fun z42=>(za5 gr key z42 ct.Least ct.Most).bind fun z43=>(zbU gr (zcE x.Voter) z43 x.Sum).bind fun z44=>some z44)=some (zjJ gr (zcE x.Voter) (stV gr key (zml gr x.Ciphers) ct.Least (ct.Most-ct.Least+1).toNat) x.Sum):=by
    rw[zxe k hc,Option.bind_some,zrr k (zn8 k _) (by omega) (n:=(ct.Most-ct.Least+1).toNat) (by omega) (by omega),Option.bind_some,zul k (by omega) (zrD k hk (zn8 k _) (by omega))];rfl
   rw[if_neg (by simp),hk2,zkC (fun i=>zjJ gr (zcE x.Voter) (stV gr key (x.Ciphers.getD i ⟨0,0⟩) 0 ((zcA ct).toNat+1)) (x.Proofs.getD i ⟨[],[],[]⟩)) false _ fun i hi=>?_]
   ·cases (List.range x.Ciphers.length).all _<;>rfl
   ·have hci:=List.all_eq_true.1 hc _ (List.getElem_mem hi);have hip:i<x.Proofs.length:=by omega
    rw[zbB hi,Option.bind_some,zbB hip,Option.bind_some,hmo,Option.bind_some,zrr k hci (by omega) (n:=(zcA ct).toNat+1) (by omega) (by omega),Option.bind_some,zul k (by omega) (zrD k hk hci (by omega)),Option.bind_some,zvD,zgv hi,zgv hip]
theorem zCF(k:OkG gr){key:Int}(hk:zaq gr key=true)(kc:OkC ct)(hgd:zbG ct=true→ct.Most-ct.Least<8){x:Sealed}(hx:seN x):zgD gr key ct x=some (seB gr key ct x):=by
 unfold zgD seB;simp only[zCO,zvm,zAL k,Option.bind_some,zfq];rw[show(!inB 0 999999 x.Voter||(((x.Ciphers.length:Int) !=wdt ct)||(((x.Proofs.length:Int) !=wdt ct)|| !(decide (x.Ciphers.length≤24)&&x.Ciphers.all (zcn gr)))))=zkF gr ct x from rfl];cases hg:zkF gr ct x with
 |true=>rfl
 |false=>
  obtain⟨hv,hn,hm,hc⟩:=zx0 hg;have hlb:=zth hv.1 hv.2;rw[if_neg (by simp),zsC hv.1 hv.2,Option.bind_some,zif,show(ct.Kind==1||ct.Kind==2)=zbG ct from rfl,Option.bind_some];cases hf:zbG ct with
  |false=>
   unfold wdt at hn hm;rw[hf]at hn hm;have hn:(x.Ciphers.length:Int)=1:=hn;have hm:(x.Proofs.length:Int)=1:=hm;have hc0:=List.all_eq_true.1 hc _ (List.getElem_mem (show 0<x.Ciphers.length by omega));have hca:=hc0;simp only[zcn,Bool.and_eq_true]at hca;have e1:ix x.Ciphers 0=some (x.Ciphers.getD 0 ⟨0,0⟩):=by rw[show(0:Int)=((0:Nat):Int)from rfl,zbB (show 0<x.Ciphers.length by omega),zgv (show 0<x.Ciphers.length by omega)]
   have e2:ix x.Proofs 0=some (x.Proofs.getD 0 ⟨[],[],[]⟩):=by rw[show(0:Int)=((0:Nat):Int)from rfl,zbB (show 0<x.Proofs.length by omega),zgv (show 0<x.Proofs.length by omega)]
   have hv:=zxD k (s:=zcE x.Voter) (by omega) (zoY (zfc k)) (im:=[(x.Ciphers.getD 0 ⟨0,0⟩).A]) rfl (by rw[zgv (show 0<x.Ciphers.length by omega)];simp[hca.1]) (p:=x.Proofs.getD 0 ⟨[],[],[]⟩) (by rw[zgv (show 0<x.Proofs.length by omega)];exact hx.1 _ (List.getElem_mem _));rw[if_pos (show(!false)=true from rfl),e1,e2,Option.bind_some,Option.bind_some,hv,Option.bind_some,zAK hx.2.1 hx.2.2.1 hx.2.2.2];cases zoX x.Sum<;>cases zmd gr (zcE x.Voter) [[gr.G]] [(x.Ciphers.getD 0 ⟨0,0⟩).A] (x.Proofs.getD 0 ⟨[],[],[]⟩)<;>rfl
  |true=>
   obtain⟨f1,f2,f3,f4⟩:=zii kc hf;have hgd:=hgd hf;have hDq:ct.Options*zcA ct≤8*5:=Int.mul_le_mul (by omega) (by omega) (by omega) (by omega)
   have hk2:(ze1 gr x.Ciphers).bind (fun z42=>(zbM gr key z42 ct.Least ct.Most).bind fun z43=>(zdu gr (zcE x.Voter) z43 x.Sum).bind fun z44=>some z44)=some (zjJ gr (zcE x.Voter) (stV gr key (zml gr x.Ciphers) ct.Least (ct.Most-ct.Least+1).toNat) x.Sum):=by
    rw[zCR k hc,Option.bind_some,zrx k (zn8 k _) (by omega) (n:=(ct.Most-ct.Least+1).toNat) (by omega) (by omega),Option.bind_some,zuL k (by omega) (zrD k hk (zn8 k _) (by omega))];rfl
   rw[if_neg (by simp),hk2,zkC (fun i=>zjJ gr (zcE x.Voter) (stV gr key (x.Ciphers.getD i ⟨0,0⟩) 0 ((zcA ct).toNat+1)) (x.Proofs.getD i ⟨[],[],[]⟩)) false _ fun i hi=>?_]
   ·cases (List.range x.Ciphers.length).all _<;>rfl
   ·have hci:=List.all_eq_true.1 hc _ (List.getElem_mem hi);have hip:i<x.Proofs.length:=by omega
    rw[zbB hi,Option.bind_some,zbB hip,Option.bind_some,zss,Option.bind_some,zrx k hci (by omega) (n:=(zcA ct).toNat+1) (by omega) (by omega),Option.bind_some,zuL k (by omega) (zrD k hk hci (by omega)),Option.bind_some,zvD,zgv hi,zgv hip]
end
variable{c:Int}
theorem zyc(gr:Group)(key:Int)(ct:Contest){x:Sealed}(hx:seN x):∃y,zdJ gr key ct x=some y∧zeP gr key ct x=some y∧(zb4 gr ct=some true→zaq gr key=true→y=(seB gr key ct x,true)):=by
 obtain⟨b,s1,s2,s3⟩:=zj8 gr ct;unfold zdJ zeP;rw[s1,s2];cases b with
 |false=>exact⟨(false,false),rfl,rfl,fun h=>by cases h⟩
 |true=>
  obtain⟨kg,kc⟩:=s3 rfl;simp only[zpg kg,zxE kg,Bool.not_true,Bool.false_eq_true,if_false,Option.bind_some];cases hk:zaq gr key with
  |false=>exact⟨(false,false),rfl,rfl,fun _ h=>by cases h⟩
  |true=>exact⟨(seB gr key ct x,true),zaj (zaB rfl (zac (zBY kg hk kc (fun hf=>zuV s1 kg kc hf) hx) (zab rfl))),zaj (zaB rfl (zac (zCF kg hk kc (fun hf=>zuV s1 kg kc hf) hx) (zab rfl))),fun _ _=>rfl⟩
theorem zwc{l:List Int}{i m:Nat}(h:i≠m):(l.set m c).getD i 0=l.getD i 0:=by
 rw[List.getD_eq_getElem?_getD,List.getD_eq_getElem?_getD,List.getElem?_set_ne (by omega)]
theorem zwa{l:List Int}{m:Nat}(h:m<l.length):(l.set m c).getD m 0=c:=by
 rw[List.getD_eq_getElem?_getD,List.getElem?_set_self h];rfl
theorem zxR{l:List Int}{m:Nat}{c:Int}(hm:m<l.length)(h0:l.getD m 0=0):∀n,smL (fun i=>(l.set m c).getD i 0) n=smL (fun i=>l.getD i 0) n+if m<n then c else 0
 |0=>rfl
 |n+1=>by
  show smL _ n+(l.set m c).getD n 0=smL _ n+l.getD n 0+_;rw[zxR hm h0 n];by_cases e:n=m
  ·subst e;rw[zwa hm,h0,if_neg (by omega),if_pos (by omega)];try omega
  ·rw[zwc e];by_cases h:m<n
   ·rw[if_pos h,if_pos (by omega)];omega
   ·rw[if_neg h,if_neg (by omega)];omega
section
variable {gr:Group}{s:ByteArray}{l:List EqualLog}{m:Nat}{x:Int}{coins:List Int}
theorem zw3(k:OkG gr){g y:Int}(hg:zaq gr g=true)(hy:zaq gr y=true)(e z:Int):zaq gr (siV gr g y e z)=true:=by
 have h1:=zi6 k hg;have h2:=zi6 k hy;generalize dl gr g=a at h1;generalize dl gr y=b at h2;subst h1 h2;unfold siV;rw[zge k,zge k,zdY k];exact zhY k _
theorem zzC(k:OkG gr)(O:OoOk gr s l m x coins)(w:Int):∀i,i≤l.length→(∀z∈(ooN gr l m w coins i).1,zaq gr z=true)∧(∀j,j<i→j≠m→siV gr (l.getD j q0).G1 (l.getD j q0).Y1 ((ooN gr l m w coins i).2.1.getD j 0) ((ooN gr l m w coins i).2.2.1.getD j 0)=(ooN gr l m w coins i).1.getD (2*j) 0∧siV gr (l.getD j q0).G2 (l.getD j q0).Y2 ((ooN gr l m w coins i).2.1.getD j 0) ((ooN gr l m w coins i).2.2.1.getD j 0)=(ooN gr l m w coins i).1.getD (2*j+1) 0)∧(m<i→(ooN gr l m w coins i).2.1.getD m 0=0∧(ooN gr l m w coins i).1.getD (2*m) 0=zao gr (l.getD m q0).G1 w∧(ooN gr l m w coins i).1.getD (2*m+1) 0=zao gr (l.getD m q0).G2 w)
 |0,_=>⟨by intro z hz;simp[ooN]at hz,by intro j hj;omega,by intro h;omega⟩
 |i+1,hi=>by
  obtain⟨h1,h2,h3⟩:=zzC k O w i (by omega);obtain⟨l1,l2,l3⟩:=zjx gr l m w coins i;have hO:=O.hl _ (List.getElem_mem (show i<l.length by omega));rw[←zk1 (l:=l) (show i<l.length by omega)]at hO;rw[ooN];generalize ooN gr l m w coins i=S at h1 h2 h3 l1 l2 l3⊢
  have lft:∀(a b c d:List Int) (j:Nat),j<i→j≠m→siV gr (l.getD j q0).G1 (l.getD j q0).Y1 ((S.2.1++a).getD j 0) ((S.2.2.1++b).getD j 0)=(S.1++c).getD (2*j) 0∧siV gr (l.getD j q0).G2 (l.getD j q0).Y2 ((S.2.1++a).getD j 0) ((S.2.2.1++b).getD j 0)=(S.1++c).getD (2*j+1) 0:=fun a b c d j hj hm=>by
   rw[zo2 (a:=S.2.1) (by omega),zo2 (a:=S.2.2.1) (by omega),zo2 (a:=S.1) (by omega),zo2 (a:=S.1) (by omega)];exact h2 j hj hm
  by_cases em:i=m
  ·subst em;rw[if_pos rfl];refine⟨apL h1 fun z hz=>?_,fun j hj hm=>lft _ _ _ [] j (by omega) hm,fun _=>⟨zoO (j:=0) (by omega),zoO (j:=0) (by omega),zoO (j:=1) (by omega)⟩⟩;simp only[List.mem_cons,List.not_mem_nil,or_false]at hz;rcases hz with rfl|rfl
   ·exact zm0 k hO.1 _
   ·exact zm0 k hO.2.2.1 _
  ·rw[if_neg em];refine⟨apL h1 fun z hz=>?_,fun j hj hm=>?_,fun h=>?_⟩
   ·simp only[List.mem_cons,List.not_mem_nil,or_false]at hz;rcases hz with rfl|rfl
    ·exact zw3 k hO.1 hO.2.1 _ _
    ·exact zw3 k hO.2.2.1 hO.2.2.2 _ _
   ·by_cases e:j=i
    ·subst e;dsimp only;rw[zoO (a:=S.2.1) (j:=0) (by omega),zoO (a:=S.2.2.1) (j:=0) (by omega),zoO (a:=S.1) (j:=0) (by omega),zoO (a:=S.1) (j:=1) (by omega)];exact⟨rfl,rfl⟩
    ·exact lft _ _ _ [] j (by omega) hm
   ·obtain⟨a1,a2,a3⟩:=h3 (by omega);dsimp only;rw[zo2 (a:=S.2.1) (by omega),zo2 (a:=S.1) (by omega),zo2 (a:=S.1) (by omega)];exact⟨a1,a2,a3⟩
theorem zDY{q a w x c t:Int}:a*(w+c*x-q*t)+a*x*(0-c)=a*w+q*(0-a*t):=by
 grind
theorem zB5(k:OkG gr){g y:Int}(hg:zaq gr g=true)(hx:zao gr g x=y)(c w:Int):siV gr g y c ((w+c*x)%gr.Q)=zao gr g w:=by
 have h1:=zi6 k hg;generalize dl gr g=a at h1;subst h1 hx;unfold siV;obtain⟨t,ht⟩:=mw (w+c*x) gr.Q;rw[zge k,zge k,zge k,zge k,zdY k,ht,zJb _ zDY]
theorem zFv{q S s E t1 t2 C:Int}(h1:s=S-q*t1)(h2:C=E-s-q*t2):S+C=E+q*(t1-t2):=by
 rw[h2,h1];grind
theorem zzs(k:OkG gr)(O:OoOk gr s l m x coins):zjJ gr s l (ooV gr s l m x coins)=true:=by
 have hq:=k.q;have hn:=O.hn;have hm:=O.hm;obtain⟨l1,l2,l3⟩:=zjx gr l m (coins.getD (coins.length-1) 0) coins l.length;obtain⟨g1,g2⟩:=zph k O (coins.getD (coins.length-1) 0) l.length (Nat.le_refl _);have g3:=zvT k O (coins.getD (coins.length-1) 0) l.length (Nat.le_refl _);obtain⟨h1,h2,h3⟩:=zzC k O (coins.getD (coins.length-1) 0) l.length (Nat.le_refl _);obtain⟨h4,h5,h6⟩:=h3 hm;have hV:ooV gr s l m x coins=(let w:=coins.getD (coins.length-1) 0;let S:=ooN gr l m w coins l.length;⟨S.1,S.2.1.set m (ooC gr s l S),S.2.2.1.set m ((w+ooC gr s l S*x)%gr.Q)⟩):=rfl;rw[hV];dsimp only;generalize ooN gr l m (coins.getD (coins.length-1) 0) coins l.length=S at l1 l2 l3 g1 g2 g3 h1 h2 h4 h5 h6⊢;generalize coins.getD (coins.length-1) 0=w at h5 h6⊢;have hC:E9 gr.Q (ooC gr s l S):=zj3 (by omega) _;have hset:∀{L:List Int}{y:Int},(∀z∈L,E9 gr.Q z)→E9 gr.Q y→(L.set m y).all (zdU gr)=true:=fun h hy=>List.all_eq_true.2 fun z hz=>zf5.2 ((List.mem_or_eq_of_mem_set hz).elim (h z) fun e=>e▸hy)
 have e1:S.1.all (zaq gr)=true:=List.all_eq_true.2 h1;unfold zjJ
 have hgrd:zkN gr l ⟨S.1,S.2.1.set m (ooC gr s l S),S.2.2.1.set m ((w+ooC gr s l S*x)%gr.Q)⟩=false:=by
  unfold zkN;dsimp only;rw[e1,hset g2 hC,hset g3 (zj3 (by omega) _),List.length_set,List.length_set,l1,l2,l3];simp
 have heq:(List.range l.length).all (zkt gr l ⟨S.1,S.2.1.set m (ooC gr s l S),S.2.2.1.set m ((w+ooC gr s l S*x)%gr.Q)⟩)=true:=by
  rw[List.all_eq_true];intro j hj;have hj:=List.mem_range.1 hj;obtain⟨p1,p2,p3,p4⟩:=O.hl _ (List.getElem_mem hj);rw[←zk1 hj]at p1 p2 p3 p4;unfold zkt;dsimp only;by_cases e:j=m
  ·subst e;rw[zwa (by omega),zwa (by omega),zB5 k p1 O.ht.1,zB5 k p3 O.ht.2,h5,h6];simp
  ·rw[zwc e,zwc e,(h2 j hj e).1,(h2 j hj e).2];simp
 rw[hgrd,heq];dsimp only;have hl:(S.2.1.set m (ooC gr s l S)).length=l.length:=by rw[List.length_set,l2]
 have hb:=zvN (q:=gr.Q) (by omega) (S.2.1.set m (ooC gr s l S)) l.length;have ha:=zvN (q:=gr.Q) (by omega) S.2.1 l.length;have he:=zmy (q:=gr.Q) (by omega) (S.2.1.set m (ooC gr s l S)) l.length;have hs:=zmy (q:=gr.Q) (by omega) S.2.1 l.length;rw[zxR (by omega) h4,if_pos hm]at hb;rw[Int.emod_eq_of_lt he.1 he.2]at hb;rw[Int.emod_eq_of_lt hs.1 hs.2]at ha;have hE:E9 gr.Q (ooE gr s l S):=zpx k _ _
 have hsum:smN gr.Q (S.2.1.set m (ooC gr s l S)) l.length=ooE gr s l S:=by
  obtain⟨t1,ht1⟩:=mw (smL (fun i=>S.2.1.getD i 0) l.length) gr.Q;obtain⟨t2,ht2⟩:=mw (ooE gr s l S-smN gr.Q S.2.1 l.length) gr.Q;rw[hb,zFv (C:=ooC gr s l S) (ha.trans ht1) ht2,Int.add_mul_emod_self_left,Int.emod_eq_of_lt hE.1 hE.2]
 rw[hl,hsum];show(!false&&(true&&(ooE gr s l S==ooE gr s l S)))=true;rw[beq_self_eq_true];rfl
end
theorem zLd{gr:Group}{key:Int}{ct:Contest}{voter:Int}{v coins:List Int}{x:Sealed}(H:SeHn gr key ct voter v coins x):seB gr key ct x=true:=by
 have k:=H.kg;have hk:=H.hk;have hv:=zbe.2 H.h2;rcases H.e with⟨hf,u0,u1,rfl,rfl⟩|⟨hf,q,hq,S,O,rfl⟩
 ·have b0:=H.hc u0 (by simp);have b1:=H.hc u1 (by simp)
  have hg:zkF gr ct ⟨voter,[cK gr key (zfm ct v) u0],[zhR gr (zcE voter) u0 u1],⟨[],[],[]⟩⟩=false:=by
   unfold zkF wdt;rw[hf];dsimp only;rw[hv,List.all_cons,zlw k hk];rfl
  unfold seB;rw[hg,hf];have:=zCH k (zcE voter) b0.1 b1.1;unfold zyj at this;show(!false&&if false=true then _ else(zoX ⟨[],[],[]⟩&&zmd gr (zcE voter) [[gr.G]] [zao gr gr.G u0] (zhR gr (zcE voter) u0 u1)))=true;rw[this];rfl
 obtain⟨f1,f2,f3,f4⟩:=zii H.kc hf;obtain⟨g1,g2,g3,_⟩:=zsj H.kc hf H.h3;generalize hd:zck ct v=d at S O g1 g2 g3⊢;have hn:=S.hn
 have hc:((List.range d.length).map (svC gr key d coins q)).all (zcn gr)=true:=by
  rw[List.all_eq_true];intro z hz;obtain⟨i,_,rfl⟩:=List.mem_map.1 hz;exact zlw k hk _ _
 have hg:zkF gr ct (seV gr key (zcE voter) d coins q voter ct.Least (ct.Most-ct.Least+1).toNat)=false:=by
  unfold zkF wdt seV;rw[if_pos hf];dsimp only;rw[hv,hc,List.length_map,List.length_map,List.length_range,g1,decide_eq_true (by omega)];simp
 have hm:zml gr ((List.range d.length).map (svC gr key d coins q))=zli gr key d coins q:=Option.some.inj ((zxe k hc).symm.trans (zzP S));unfold seB;rw[hg,if_pos hf];unfold seV;dsimp only;rw[hm,zzs k O,hq,Int.toNat_natCast,Bool.and_true,Bool.not_false,Bool.true_and,List.all_eq_true];intro i hi;rw[List.length_map,List.length_range]at hi;have hi:=List.mem_range.1 hi;have e1:((List.range d.length).map (svC gr key d coins q)).getD i ⟨0,0⟩=svC gr key d coins q i:=by rw[zgv (by simpa using hi)];simp
 have e2:((List.range d.length).map (svP gr key (zcE voter) d coins q)).getD i ⟨[],[],[]⟩=svP gr key (zcE voter) d coins q i:=by rw[zgv (by simpa using hi)];simp
 rw[e1,e2];exact zzs k (zro S hi)
section
variable {gr:Group}
theorem zDi(k:OkG gr){i j:Nat}(hi:(i:Int)<gr.Q)(hj:(j:Int)<gr.Q)(h:pg gr (i:Int)=pg gr (j:Int)):i=j:=by
 have hq:=k.q;have hp:=k.p;have hg:=k.g;unfold pg at h;rw[zkP k (by omega),zkP k (by omega),Int.toNat_natCast,Int.toNat_natCast]at h;have h:gr.G.toNat^i%gr.P.toNat=gr.G.toNat^j%gr.P.toNat:=Int.ofNat.inj h;have hI:∀{a b:Nat},a<b→(b:Int)<gr.Q→gr.G.toNat^a%gr.P.toNat≠gr.G.toNat^b%gr.P.toNat:=fun{a b} hab hb=>zue (p:=gr.P.toNat) (q:=gr.Q.toNat) (by omega) k.pq k.o (by rw[Nat.mod_eq_of_lt (by omega)];omega) hab (by omega)
 rcases Nat.lt_trichotomy i j with l|l|l
 ·exact absurd h (hI l hj)
 ·exact l
 exact absurd h.symm (hI l hi)
theorem zEz(k:OkG gr){e:Nat}{M:Int}(he:(e:Int)≤M)(hM:M≤100000)(hq:M<gr.Q):zeU gr gr.G (pg gr (e:Int)) M=some (e:Int):=by
 unfold zeU
 have h:zaH (σ:=Int×Int) (β:=Unit ⊕ Int) (fun s4=>
  if decide (s4.2<(i64.wrap (M+1)))=true then(
  if(s4.1==pg gr (e:Int))=true then(
  some (.out (.inr s4.2)))else(
  (zaP gr [s4.1,gr.G]).bind fun z11=>
  some (.go (z11,i64.wrap (s4.2+1)))))else(
  some (.out (.inl ())))) (1,0)=some (.inr (e:Int)):=by
  rw[zah (n:=M+1) (by omega) (by omega)];refine zaj (zfo e (fun i s=>s=(pg gr (i:Int),(i:Int))∧i≤e) ⟨by show(1,0)=(pg gr 0,0);rw[zrO k],by omega⟩ ?_ ?_)
  ·rintro i s hi ⟨rfl,_⟩
   have hne:(pg gr (i:Int)==pg gr (e:Int))=false:=beq_false_of_ne fun h=>by
    have:=zDi k (by omega) (by omega) h;omega
   have hmu:zcW gr [pg gr (i:Int),gr.G]=pg gr ((i+1:Nat):Int):=by
    have:=zdY k (i:Int) 1;rw[zMb k]at this;rw[this];rfl
   refine zee (by simp;omega) (zaB hne (zac (m2I k (zc5 k gr.G (i:Int)) (r_G k)) (zab ⟨?_,by omega⟩)));dsimp only;rw[zah (n:=(i:Int)+1) (by omega) (by omega)];show(zcW gr [pg gr (i:Int),gr.G],_)=_;rw[hmu];rfl
  ·rintro s ⟨rfl,_⟩;exact zee (by simp;omega) (zee (by simp) (zab rfl))
 rw[h];rfl
theorem zCm(k:OkG gr)(x r e:Int):zDl gr x (cK gr (zao gr gr.G x) e r)=pg gr e:=by
 show zcW gr [zcW gr [pg gr e,zao gr (pg gr x) r],zao gr (zao gr (pg gr r) x) (-1)]=pg gr e;rw[zge k,zge k,zge k,zdY k,zdY k];congr 1;grind
end
variable{code v:List Int}{ct:Contest}{voter:Int}
theorem zsY(k:OkC ct)(hv:zc6 ct v=true):zcZ ct (zck ct v)=some v:=by
 have hd8:=(zlO k hv).2.2;unfold zcZ;unfold zck at hd8⊢;unfold zc6 at hv;rcases k.k with⟨k1|k3,ho,hm,hp⟩|⟨k2,ho,hp,hm⟩|⟨k4,ho,hm,hp⟩
 ·simp only[k1,if_true,Bool.and_eq_true]at hv hd8⊢;rw[zf7]at hd8
  have hs:=zhc (σ:=List Int) (γ:=List Int) (n:=(zdS ct.Options.toNat v).length) (stop:=fun s4=>s4) (s0:=[]) (body:=fun i5 s4=>
   (((ix (zdS ct.Options.toNat v) i5).bind fun x14=>
   if((1:Int)==1)=true then(
   if(x14==1)=true then(
   gd ((s4.length+1)*8≤140737488355328∧s4.length+1≤4611686018427387904)<|
   some (s4++[i5]))else(
   some s4))else(
   if((1:Int)==3)=true then(
   gd ((s4.length+1)*8≤140737488355328∧s4.length+1≤4611686018427387904)<|
   some (s4++[i64.wrap (x14-1)]))else(
   gd ((s4.length+1)*8≤140737488355328∧s4.length+1≤4611686018427387904)<|
   some (s4++[x14]))):Option ((List Int))).bind fun x13=>
   some (.go x13))) (fun i=>((List.range i).filter fun(j:Nat)=>v.contains (j:Int)).map fun(j:Nat)=>(j:Int)) rfl fun i hi=>by
    have hin:i<ct.Options.toNat:=by rw[zf7]at hi;exact hi
    have hx:(zdS ct.Options.toNat v)[i]=if v.contains (i:Int)=true then 1 else 0:=by simp[zdS]
    have hle:(((List.range i).filter fun(j:Nat)=>v.contains (j:Int)).map fun(j:Nat)=>(j:Int)).length≤i:=by
     rw[List.length_map];exact Nat.le_trans (List.length_filter_le _ _) (by simp)
    refine zae (ψ:=(· =((List.range (i+1)).filter fun(j:Nat)=>v.contains (j:Int)).map fun(j:Nat)=>(j:Int))) (zaK hi (zee rfl ?_)) (by rintro _ rfl;exact zab rfl);rw[hx,List.range_succ,List.filter_append];cases hc:v.contains (i:Int)with
    |true=>exact zee rfl (zak (by omega) (zab (by simp only[List.filter_cons,hc,if_true,List.filter_nil,List.map_append,List.map_cons,List.map_nil])))
    |false=>exact zaB rfl (zab (by simp only[List.filter_cons,hc,Bool.false_eq_true,if_false,List.filter_nil,List.append_nil]))
  have hfin:((List.range (zdS ct.Options.toNat v).length).filter fun(j:Nat)=>v.contains (j:Int)).map (fun(j:Nat)=>(j:Int))=v:=by
   rw[zf7];refine zuv (List.Pairwise.map _ (fun a b h=>by omega) (List.Pairwise.filter _ List.pairwise_lt_range)) ((zsS v).2 (by rw[hv.1.2.1,hv.1.2.2];rfl)) fun x=>?_
   rw[List.mem_map];constructor
   ·rintro⟨j,hj,rfl⟩;have:=(List.mem_filter.1 hj).2;simpa using this
   ·intro hx;have hb:=zbe.1 (List.all_eq_true.1 hv.1.1 x hx);refine⟨x.toNat,List.mem_filter.2 ⟨List.mem_range.2 (by omega),?_⟩,by omega⟩;rw[show((x.toNat:Nat):Int)=x by omega];simpa using hx
  rw[hs,hfin];rfl
 ·simp only[k3,show¬(3:Int)=1 by omega,if_false,if_true]at hd8⊢;simp only[k3,show¬(3:Int)=1 by omega,show¬(3:Int)=2 by omega,if_false,if_true,Bool.and_eq_true]at hv
  have hs:=zhc (σ:=List Int) (γ:=List Int) (n:=(v.map (· +1)).length) (stop:=fun s4=>s4) (s0:=[]) (body:=fun i5 s4=>
   (((ix (v.map (· +1)) i5).bind fun x14=>
   if((3:Int)==1)=true then(
   if(x14==1)=true then(
   gd ((s4.length+1)*8≤140737488355328∧s4.length+1≤4611686018427387904)<|
   some (s4++[i5]))else(
   some s4))else(
   if((3:Int)==3)=true then(
   gd ((s4.length+1)*8≤140737488355328∧s4.length+1≤4611686018427387904)<|
   some (s4++[i64.wrap (x14-1)]))else(
   gd ((s4.length+1)*8≤140737488355328∧s4.length+1≤4611686018427387904)<|
   some (s4++[x14]))):Option ((List Int))).bind fun x13=>
   some (.go x13))) (fun i=>v.take i) rfl fun i hi=>by
    have hi2:i<v.length:=by simpa using hi
    rw[List.length_map]at hd8;have hb:=zbe.1 (List.all_eq_true.1 hv.1 _ (List.getElem_mem hi2));refine zae (ψ:=(· =v.take (i+1))) (zaK hi (zaB rfl (zee rfl (zak (by rw[List.length_take];omega) (zab ?_))))) (by rintro _ rfl;exact zab rfl);rw[List.getElem_map,List.take_succ_eq_append_getElem hi2,zah (n:=v[i]+1-1) (by omega) (by omega),Int.add_sub_cancel]
  rw[hs,List.length_map,List.take_length];rfl
 all_goals
  first
  |simp only[k2,show¬(2:Int)=1 by omega,show¬(2:Int)=3 by omega,if_false]at hd8⊢
  |simp only[k4,show¬(4:Int)=1 by omega,show¬(4:Int)=3 by omega,if_false]at hd8⊢
  refine zaj (zac (zhc (σ:=List Int) (γ:=List Int) (n:=v.length) (stop:=fun s4=>s4) (s0:=[]) (fun i=>v.take i) rfl fun i hi=>?_) (zab (by rw[List.take_length])));refine zae (ψ:=(· =v.take (i+1))) (zaK hi (zaB rfl (zaB rfl (zak (by rw[List.length_take];omega) (zab ?_))))) (by rintro _ rfl;exact zab rfl);rw[List.take_succ_eq_append_getElem hi]
theorem zAE(k:OkC ct):zay ct=some (zfX ct)∧1≤zfX ct∧zfX ct≤27:=by
 unfold zay zfX;rcases k.k with⟨k1|k3,ho,hm,hp⟩|⟨k2,ho,hp,hm⟩|⟨k4,ho,hm,hp⟩
 ·rw[k1];exact⟨rfl,by simp,by simp⟩
 ·rw[k3,zah (n:=ct.Options+1) (by omega) (by omega)];exact⟨rfl,by simp;omega,by simp;omega⟩
 ·rw[k2,zah (n:=ct.Points+1) (by omega) (by omega)];exact⟨rfl,by simp;omega,by simp;omega⟩
 rw[k4];exact⟨rfl,by simp,by simp⟩
theorem zsU{l:List Int}{f:Int→Bool}(h:l.all f=true)(i:Nat):(l.drop i).all f=true:=List.all_eq_true.2 fun x hx=>List.all_eq_true.1 h x (List.mem_of_mem_drop hx)
theorem zEr(k:OkC ct)(hf:zbG ct=false)(hv:zc6 ct v=true):ct.Kind≠2∧∀z∈zck ct v,1≤z:=by
 unfold zbG at hf;unfold zc6 at hv;unfold zck;rcases k.k with⟨k1|k3,ho,hm,hp⟩|⟨k2,ho,hp,hm⟩|⟨k4,ho,hm,hp⟩
 ·rw[k1]at hf;cases hf
 ·simp only[k3,show¬(3:Int)=1 by omega,show¬(3:Int)=2 by omega,if_false,if_true,Bool.and_eq_true]at hv⊢;refine⟨by omega,fun z hz=>?_⟩;obtain⟨y,hy,rfl⟩:=List.mem_map.1 hz;have:=zbe.1 (List.all_eq_true.1 hv.1 y hy);omega
 ·rw[k2]at hf;cases hf
 simp only[k4,show¬(4:Int)=1 by omega,show¬(4:Int)=2 by omega,show¬(4:Int)=3 by omega,if_false,Bool.and_eq_true]at hv⊢;exact⟨by omega,fun z hz=>(zbe.1 (List.all_eq_true.1 hv.1 z hz)).1⟩
theorem zyw(k:OkC ct)(hf:zbG ct=false)(hv:zc6 ct v=true)(hl:v.length≤1048576):zeb ct (zfm ct v)=some (v,true):=by
 obtain⟨_,d1,d2⟩:=zlO k hv;obtain⟨hb,b1,b2⟩:=zAE k;obtain⟨hk2,h1⟩:=zEr k hf hv;have hc0:=(zjq b1 d1).1;have h40:=zdd (a:=0) (b:=zfX ct-1) (a':=0) (b':=40) (by omega) (by omega) d1;unfold zeb
 have hl1:zaH (σ:=(List Int)×Int) (fun s5=>
  ((if decide (0<s5.2)=true then(
  some (decide ((s5.1.length:Int)<64)))else(
  some false):Option Bool).bind fun x12=>
  if x12=true then(
  (zay ct).bind fun z15=>
  gd (z15≠0)<|
  gd ((s5.1.length+1)*8≤140737488355328∧s5.1.length+1≤4611686018427387904)<|
  (zay ct).bind fun z16=>
  gd (z16≠0)<|
  some (.go (s5.1++[s5.2.tmod z15],i64.wrap (s5.2.tdiv z16))))else(
  some (.out s5.1)))) ([],zfm ct v)=some (zck ct v):=by
  show zaH _ ([],num (zfX ct) (zck ct v))=_;generalize zck ct v=d at d1 d2 h1 h40⊢;generalize zfX ct=b at hb b1 b2 d1⊢;refine zaj (zfo d.length (fun i s=>s=(d.take i,num b (d.drop i))∧i≤d.length) ⟨rfl,by omega⟩ ?_ ?_)
  ·rintro i s hi ⟨rfl,_⟩;have hz1:=h1 _ (List.getElem_mem hi);have hzb:=zbe.1 (List.all_eq_true.1 d1 _ (List.getElem_mem hi));have e:num b (d.drop i)=num b (d.drop (i+1))*b+d[i]:=by rw[List.drop_eq_getElem_cons hi];rfl
   have hn:=(zjq b1 (zsU d1 (i+1))).1;have hm:0≤num b (d.drop (i+1))*b:=Int.mul_nonneg hn (by omega);have hbd:=zub (b:=b) (by omega) (l:=d.drop (i+1)) (by rw[List.length_drop];omega) (zsU h40 (i+1))
   have et:(num b (d.drop i)).tmod b=d[i]:=by
    rw[Int.tmod_eq_emod_of_nonneg (by omega),e,Int.add_comm,Int.add_mul_emod_self_right,Int.emod_eq_of_lt (by omega) (by omega)]
   have ed:(num b (d.drop i)).tdiv b=num b (d.drop (i+1)):=by
    rw[Int.tdiv_eq_ediv_of_nonneg (by omega),e,Int.add_comm,Int.add_mul_ediv_right _ _ (by omega),Int.ediv_eq_zero_of_lt (by omega) (by omega),Int.zero_add]
   have hlt:(d.take i).length<64:=by rw[List.length_take];omega
   refine zac (a:=true) ?_ (zee rfl (zac hb (zak (by omega) (zak (by dsimp only;omega) (zac hb (zak (by omega) (zab ⟨?_,by omega⟩)))))))
   ·rw[if_pos (decide_eq_true (show 0<num b (d.drop i)by omega)),decide_eq_true (show((d.take i).length:Int)<64 by omega)]
   ·dsimp only;rw[et,ed,zah (by omega) (by omega),List.take_succ_eq_append_getElem hi]
  ·rintro s ⟨rfl,_⟩;refine zac (a:=false) ?_ (zaB rfl (zab (show d.take d.length=d from List.take_length)));rw[List.drop_length];rfl
 have hl2:zaH (σ:=(List Int)) (fun s22=>
  ((if(ct.Kind==2)=true then(
  some (decide ((s22.length:Int)<ct.Options)))else(
  some false):Option Bool).bind fun x29=>
  if x29=true then(
  gd ((s22.length+1)*8≤140737488355328∧s22.length+1≤4611686018427387904)<|
  some (.go (s22++[0])))else(
  some (.out s22)))) (zck ct v)=some (zck ct v):=by
  refine zaj (zfo 0 (fun i s=>s=zck ct v) rfl (fun i s hi _=>by omega) ?_);rintro s rfl;exact zac (a:=false) (by rw[if_neg (by simpa using hk2)]) (zaB rfl (zab rfl))
 refine zaj (zaB (decide_eq_false (show¬zfm ct v<0 by unfold zfm;omega)) (zac hl1 (zac hl2 (zac (zsY k hv) (zac (a:=false) ?_ (zaB rfl (zab rfl)))))));rw[zoC k hl,hv,zxX k hv];simp
theorem zHh{gr:Group}(h:zb4 gr ct=some true)(kg:OkG gr)(kc:OkC ct):(zbG ct=true→ct.Most<gr.Q)∧∀v,zc6 ct v=true→0≤zfm ct v∧zfm ct v≤100000∧zfm ct v<gr.Q:=by
 have lo:=kc.lo;obtain⟨n,h1,hn⟩:=zz9 kc;unfold zb4 at h;rw[zks,ziP,zjV.2 kg,zl5.2 kc]at h;simp only[h1,zif,Bool.not_true,Bool.false_eq_true,if_false,Option.bind_some,zfq]at h;rw[show(ct.Kind==1||ct.Kind==2)=zbG ct from rfl]at h;cases hc:(decide (100000<n)||decide (gr.Q≤n))with
 |true=>rw[hc]at h;cases h
 |false=>
  rw[hc]at h;simp only[Bool.or_eq_false_iff,decide_eq_false_iff_not]at hc;refine⟨fun hf=>?_,fun v hv=>⟨(hn v hv).1,by have:=(hn v hv).2;omega,by have:=(hn v hv).2;omega⟩⟩;rw[hf]at h;by_cases hq:ct.Most<gr.Q
  ·exact hq
  ·rw[decide_eq_false hq]at h;by_cases hw:decide (i64.wrap (ct.Most-ct.Least)<8)=true
   ·rw[hw]at h;cases h
   ·rw[Bool.not_eq_true]at hw;rw[hw]at h;cases h
theorem zwF:∀{l:List Int},(∀x∈l,0≤x)→0≤l.sum∧∀z∈l,z≤l.sum
 |[],_=>by simp
 |a::l,h=>by
  obtain⟨h1,h2⟩:=zwF (l:=l) fun x hx=>h x (List.mem_cons_of_mem _ hx)
  have h3:=h a (by simp);rw[List.sum_cons];refine⟨by omega,fun z hz=>?_⟩;rcases List.mem_cons.1 hz with rfl|hz
  ·omega
  ·have:=h2 z hz;omega
theorem zB2{gr:Group}{key:Int}{coins:List Int}{x:Sealed}(H:SeHn gr key ct voter v coins x):(∃r:Nat→Int,x.Ciphers=(List.range (zfx ct v).length).map fun i=>cK gr key ((zfx ct v).getD i 0) (r i))∧(∀z∈zfx ct v,0≤z∧z≤100000∧z<gr.Q)∧((zfx ct v).length:Int)=wdt ct∧(zfx ct v).length≤8∧x.Proofs.length=x.Ciphers.length:=by
 have k:=H.kg;have hq:=k.q;have gd:=zHh H.g k H.kc;unfold zfx wdt;rcases H.e with⟨hf,u0,u1,rfl,rfl⟩|⟨hf,q,hq,S,O,rfl⟩
 ·rw[hf];have hc:=gd.2 v H.h3;exact⟨⟨fun _=>u0,rfl⟩,fun z hz=>by rw[List.mem_singleton.1 hz];exact hc,rfl,by show 1≤8;omega,rfl⟩
 rw[if_pos hf,if_pos hf];obtain⟨g1,g2,g3,_⟩:=zsj H.kc hf H.h3;have hM:=gd.1 hf;have hz:∀z∈zck ct v,0≤z∧z≤zcA ct:=fun z hz=>zbe.1 (List.all_eq_true.1 g2 z hz)
 have hs:=zwF fun z h=>(hz z h).1
 have f2:=(zii H.kc hf).2.1;refine⟨⟨svR coins q,rfl⟩,fun z h=>⟨(hz z h).1,by have:=(hz z h).2;omega,by have:=hs.2 z h;omega⟩,g1,S.hn,by simp[seV]⟩
theorem zBw{gr:Group}{sec:Int}{coins:List Int}{x:Sealed}(H:SeHn gr (zao gr gr.G sec) ct voter v coins x)(hs:E9 gr.Q sec)(hl:v.length≤1048576):zfs gr sec ct x=some (v,true):=by
 have k:=H.kg;have hq:=k.q;have hp:=k.p;obtain⟨⟨r,hC⟩,hE,hw,h8,_⟩:=zB2 H;have hex:=zx9 H.kc H.h3;obtain⟨b,s1,s2,_⟩:=zj8 gr ct;have hb:b=true:=Option.some.inj (s1.symm.trans H.g);subst hb;have hcl:x.Ciphers.length=(zfx ct v).length:=by rw[hC];simp
 have hci:∀i (hi:i<x.Ciphers.length),x.Ciphers[i]=cK gr (zao gr gr.G sec) ((zfx ct v).getD i 0) (r i):=by
  intro i hi;simp[hC]
 have hall:x.Ciphers.all (zcn gr)=true:=by
  rw[hC,List.all_eq_true];intro z hz;obtain⟨i,_,rfl⟩:=List.mem_map.1 hz;exact zlw k H.hk _ _
 unfold zfs;have hM:(if i64.wrap (gr.Q-1)<100000 then i64.wrap (gr.Q-1)else 100000)=if gr.Q-1<100000 then gr.Q-1 else 100000:=by rw[zah (n:=gr.Q-1) (by omega) (by omega)]
 have hM1:(if gr.Q-1<100000 then gr.Q-1 else 100000)≤100000∧(if gr.Q-1<100000 then gr.Q-1 else 100000)<gr.Q∧∀z:Int,z≤100000→z<gr.Q→z≤(if gr.Q-1<100000 then gr.Q-1 else 100000):=by
  refine⟨by split<;>omega,by split<;>omega,fun z h1 h2=>by split<;>omega⟩
 generalize hMe:(if gr.Q-1<100000 then gr.Q-1 else 100000)=M at hM hM1;refine zaj (zae (ψ:=(· =false)) (zac s2 (zaB rfl (zac (zqB (by omega) (by omega) sec) (zaB (by rw[zf5.2 hs];rfl) (zac (znn k _) (zaB (by rw[hall,decide_eq_true (by omega)];rfl) (zac (zzo ct) (zab (by simp;omega))))))))) ?_);rintro _ rfl;refine zaB rfl (zac (a:=.inl (zfx ct v)) ?_ ?_)
 ·have hS:=zhc (σ:=List Int) (γ:=(List Int) ⊕ (List Int×Bool)) (n:=x.Ciphers.length) (stop:=fun s15=>.inl s15) (s0:=[]) (body:=fun i16 s15=>
   (ix x.Ciphers i16).bind fun x22=>
   (zcy gr sec x22).bind fun z23=>
   (zeU gr gr.G z23 (if i64.wrap (gr.Q-1)<100000 then i64.wrap (gr.Q-1)else 100000)).bind fun z24=>
   if decide (z24<0)=true then(
   some (.out (.inr ([],false))))else(
   gd ((s15.length+1)*8≤140737488355328∧s15.length+1≤4611686018427387904)<|
   some (.go (s15++[z24])))) (fun i=>(zfx ct v).take i) rfl fun i hi=>by
    have hie:i<(zfx ct v).length:=by omega
    have hz:=hE _ (List.getElem_mem hie)
    have hd:zcy gr sec x.Ciphers[i]=some (pg gr (((zfx ct v)[i].toNat:Nat):Int)):=by
     rw[hci i hi,zCx k sec (zlw k H.hk _ _),zCm k,zkj hie,Int.toNat_of_nonneg hz.1]
    have hlg:=zEz k (e:=(zfx ct v)[i].toNat) (M:=M) (by rw[Int.toNat_of_nonneg hz.1];exact hM1.2.2 _ hz.2.1 hz.2.2) hM1.1 hM1.2.1;rw[hM];refine zaK hi (zac hd (zac hlg (zaB (decide_eq_false (by omega)) (zak (by rw[List.length_take];omega) (zab ?_)))));rw[List.take_succ_eq_append_getElem hie,Int.toNat_of_nonneg hz.1]
  rw[hS,hcl,List.take_length]
 have hfin:Rn (((zbX ct v).bind fun z42=>if(!z42)=true then(some true)else((zbA ct v).bind fun z44=>(zbw z44 (zfx ct v)).bind fun z45=>some (!z45)):Option Bool).bind fun x40=>if x40=true then(some ([],false))else(some (v,true))) (· =(v,true)):=by
  refine zac (a:=false) (zaj (zac (zoC H.kc hl) (zaB (by rw[H.h3];rfl) (zac hex (zac (zn0 _ _) (zab (by simp))))))) (zaB rfl (zab rfl))
 refine zac (zjh ct) (zac (a:=(v,true)) ?_ hfin);rw[show(ct.Kind==1||ct.Kind==2)=zbG ct from rfl];cases hf:zbG ct with
 |true=>
  have:zfx ct v=zck ct v:=by unfold zfx;rw[if_pos hf]
  rw[this];exact zaj (zee rfl (zac (zsY H.kc H.h3) (zab rfl)))
 |false=>
  have:zfx ct v=[zfm ct v]:=by unfold zfx;rw[hf];rfl
  rw[this];exact zaj (zaB rfl (zac (a:=zfm ct v) rfl (zac (zyw H.kc hf H.h3 hl) (zab rfl))))
theorem zp3(a:Int)(R:List Int)(b:Bool):zaI (a::R) b=some (a,(R,b)):=by
 unfold zaI;rw[if_neg (by simp;omega)];refine zaj (zac (a:=a) rfl (zak (by simp) (zab ?_)));rw[List.take_length];rfl
theorem zrA{p R:List Int}(hp:p.length≤1000)(hR:R.length≤1000):zaZ (zbs p++R) true=some (p,(R,true)):=by
 unfold zaZ;have e:zbs p++R=(p.length:Int)::(p++R):=rfl;rw[e,zp3,Option.bind_some,zdV];have hl:(p++R).length=p.length+R.length:=List.length_append;have h1:(decide (0≤(p.length:Int))&&decide ((p.length:Int)≤((p++R).length:Int)))=true:=by simp;omega
 dsimp only;rw[h1];refine zaj (zac rfl (zaB rfl (zak (by omega) (zak (by rw[Int.toNat_natCast];omega) (zac (a:=p) ?_ (zak (by omega) (zak (by rw[Int.toNat_natCast];omega) (zab ?_))))))))
 ·unfold zcd;rw[Int.toNat_natCast,List.drop_zero,List.take_left,zcB (by omega)]
 rw[Int.toNat_natCast,List.take_length,List.drop_left]
theorem zu9:zcv [] true=some true:=rfl
theorem zrl{l:List Int}(h:l.length≤400)(hd:l.all zbE=true):zi5 l=true:=by unfold zi5;rw[hd,decide_eq_true (by omega)];rfl
theorem zDy{L:List (List Int)}(h:(zgM L).length≤400)(hd:(zgM L).all zbE=true):zdG (zgM L)=some (L,true):=by
 have hn:(L.flatMap zbs).length+1≤400:=by simpa[zgM]using h
 have hlen:L.length≤(L.flatMap zbs).length:=by
  clear h hd hn;induction L with
  |nil=>simp
  |cons p L ih=>rw[List.flatMap_cons,List.length_append,List.length_cons];show L.length+1≤(p.length+1)+(L.flatMap zbs).length;omega
 unfold zdG;rw[zj6,zrl h hd,Option.bind_some];have e:zgM L=(L.length:Int)::L.flatMap zbs:=rfl
 have hmin:(if((zgM L).length:Int)<(L.length:Int)then((zgM L).length:Int)else(L.length:Int))=(L.length:Int):=by
  rw[if_neg (by rw[e,List.length_cons];omega)]
 have hw:zaH (σ:=(List Int×Bool)×(List (List Int))×Int) (fun s20=>
  if decide (s20.2.2<(L.length:Int))=true then(
  (zaZ s20.1.1 s20.1.2).bind fun z26=>
  gd ((s20.2.1.length+1)*24≤140737488355328∧s20.2.1.length+1≤4611686018427387904)<|
  some (.go ((z26.2.1,z26.2.2),s20.2.1++[z26.1],i64.wrap (s20.2.2+1))))else(
  some (.out ((s20.1.1,s20.1.2),s20.2.1)))) ((L.flatMap zbs,true),[],0)=some (([],true),L):=by
  refine zaj (zfo L.length (fun i s=>s=(((L.drop i).flatMap zbs,true),L.take i,(i:Int))∧i≤L.length) ⟨rfl,by omega⟩ ?_ ?_)
  ·rintro i s hi ⟨rfl,_⟩;have hd2:(L.drop i).flatMap zbs=zbs L[i]++(L.drop (i+1)).flatMap zbs:=by rw[List.drop_eq_getElem_cons hi,List.flatMap_cons]
   have hle:((L.drop i).flatMap zbs).length≤(L.flatMap zbs).length:=by
    have h:(L.take i).flatMap zbs++(L.drop i).flatMap zbs=L.flatMap zbs:=by rw[←List.flatMap_append,List.take_append_drop]
    rw[←h,List.length_append];omega
   rw[hd2,List.length_append]at hle;have hat:=zvY hi;refine zee (by simpa using hi) (zac (a:=(L[i],((L.drop (i+1)).flatMap zbs,true))) (by dsimp only;rw[hd2];exact zrA (by omega) (by omega)) (zak (by rw[List.length_take];omega) (zab ⟨?_,by omega⟩)));dsimp only;rw[List.take_succ_eq_append_getElem hi,zah (n:=(i:Int)+1) (by omega) (by omega)];rfl
  ·rintro s ⟨rfl,_⟩;refine zaB (by simp) (zab ?_);show((((L.drop L.length).flatMap zbs,true),L.take L.length):(List Int×Bool)×List (List Int))=_;rw[List.drop_length,List.take_length];rfl
 refine zaj (zac (a:=((L.length:Int),(L.flatMap zbs,true))) (by rw[e];exact zp3 _ _ _) (zac (a:=(([],true),L)) (by rw[hmin];exact hw) (zac (zt9 h hd) (zae (ψ:=(· =false)) (zac zu9 (zaB rfl (zaB rfl (zac (zn0 _ _) (zab (by simp)))))) ?_))));rintro _ rfl;exact zaB rfl (zab rfl)
theorem zC1{l:List Cipher}(hl:l.length≤8)(h:∀z∈l,R9 z.A∧R9 z.B):zb5 l=some (zgS l,true):=by
 have hn:=zn6 l;have hr:zdQ (zgS l)=some (zgS l,true):=by rw[zmo,if_pos (zrl (by omega) (zn5 hl h))]
 unfold zb5;exact zaj (zac (zsh hl) (zac hr (zab rfl)))
theorem zB6{l:List Cipher}(hl:l.length≤8)(h:∀z∈l,R9 z.A∧R9 z.B):zeo (zgS l)=some (l,true):=by
 have hn:=zn6 l;unfold zeo;rw[zj6,zrl (by omega) (zn5 hl h),Option.bind_some];have e:zgS l=(l.length:Int)::l.flatMap (fun c=>[c.A,c.B]):=rfl;have hmin:(if((zgS l).length:Int)<(l.length:Int)then((zgS l).length:Int)else(l.length:Int))=(l.length:Int):=if_neg (by omega)
 have hw:zaH (σ:=(List Int×Bool)×List Cipher×Int) (fun s14=>
  if decide (s14.2.2<(l.length:Int))=true then(
  (zaI s14.1.1 s14.1.2).bind fun z20=>
  (zaI z20.2.1 z20.2.2).bind fun z21=>
  gd ((s14.2.1.length+1)*16≤140737488355328∧s14.2.1.length+1≤4611686018427387904)<|
  some (.go ((z21.2.1,z21.2.2),s14.2.1++[(Cipher.mk z20.1 z21.1)],i64.wrap (s14.2.2+1))))else(
  some (.out ((s14.1.1,s14.1.2),s14.2.1)))) ((l.flatMap (fun c=>[c.A,c.B]),true),[],0)=some (([],true),l):=by
  refine zaj (zfo l.length (fun i s=>s=(((l.drop i).flatMap (fun c=>[c.A,c.B]),true),l.take i,(i:Int))∧i≤l.length) ⟨rfl,by omega⟩ ?_ ?_)
  ·rintro i s hi ⟨rfl,_⟩;have hd2:(l.drop i).flatMap (fun c=>[c.A,c.B])=l[i].A::l[i].B::(l.drop (i+1)).flatMap (fun c=>[c.A,c.B]):=by rw[List.drop_eq_getElem_cons hi,List.flatMap_cons];rfl
   refine zee (by simpa using hi) (zac (a:=(l[i].A,(l[i].B::(l.drop (i+1)).flatMap (fun c=>[c.A,c.B]),true))) (by dsimp only;rw[hd2];exact zp3 _ _ _) (zac (zp3 _ _ _) (zak (by rw[List.length_take];omega) (zab ⟨?_,by omega⟩))));dsimp only;rw[List.take_succ_eq_append_getElem hi,zah (n:=(i:Int)+1) (by omega) (by omega)];rfl
  ·rintro s ⟨rfl,_⟩;refine zaB (by simp) (zab ?_);show((((l.drop l.length).flatMap (fun c=>[c.A,c.B]),true),l.take l.length):(List Int×Bool)×List Cipher)=_;rw[List.drop_length,List.take_length];rfl
 refine zaj (zac (a:=((l.length:Int),(l.flatMap (fun c=>[c.A,c.B]),true))) (by rw[e];exact zp3 _ _ _) (zac (a:=(([],true),l)) (by rw[hmin];exact hw) (zac (zC1 hl h) (zae (ψ:=(· =false)) (zac zu9 (zaB rfl (zaB rfl (zac (zn0 _ _) (zab (by simp)))))) ?_))));rintro _ rfl;exact zaB rfl (zab rfl)
theorem zAZ{p:Proof}(o:PrOk p):zd6 (zfG p)=some (p,true):=by
 have oa:=o.a;have ob:=o.b;have oc:=o.c;have hl:=zp9 p;unfold zd6;rw[zj6,zrl (by omega) o.d,Option.bind_some];have h3:∀q:List Int,(zbs q).length=q.length+1:=fun q=>rfl
 have e1:zfG p=zbs p.Commits++(zbs p.Challenges++(zbs p.Responses++[])):=by simp[zfG]
 rw[e1,zrA (by omega) (by rw[List.length_append,List.length_append,h3,h3];simp;omega),Option.bind_some,zrA (by omega) (by rw[List.length_append,h3];simp;omega),Option.bind_some,zrA (by omega) (by simp),Option.bind_some,zu9];rfl
theorem zzY{x:Sealed}(O:SeOk x):zd0 (zlg x)=some (x,true):=by
 have hl:=zqG O;have hd:=zum O;have hm:=O.m;have hpl:(zhQ x).length=x.Proofs.length+3:=by unfold zhQ;simp
 have hsp:zdG (zlg x)=some (zhQ x,true):=zDy (by show(zlg x).length≤400;omega) hd;have hdr:((zhQ x).take (zhQ x).length).drop 2=(x.Proofs++[x.Sum]).map zfG:=by rw[List.take_length];rfl
 unfold zd0;have h0:ix (zhQ x) 0=some [x.Voter]:=rfl;have h1:ix (zhQ x) 1=some (zgS x.Ciphers):=rfl
 have hS:=zhc (σ:=Bool×Int×List Cipher×List Proof×List Int×List Int×List Int) (n:=((x.Proofs++[x.Sum]).map zfG).length) (stop:=fun s30=>(s30.1,s30.2.1,s30.2.2.1,s30.2.2.2.1,s30.2.2.2.2.1,s30.2.2.2.2.2.1,s30.2.2.2.2.2.2)) (s0:=(true,x.Voter,x.Ciphers,[],[],[],[])) (body:=fun i31 s30=>
  (ix ((x.Proofs++[x.Sum]).map zfG) i31).bind fun x38=>
  (zd6 x38).bind fun z39=>
  ((if s30.1=true then(
  some z39.2)else(
  some false):Option Bool).bind fun x42=>
  gd ((s30.2.2.2.1.length+1)*72≤140737488355328∧s30.2.2.2.1.length+1≤4611686018427387904)<|
  some (.go (x42,s30.2.1,s30.2.2.1,s30.2.2.2.1++[z39.1],s30.2.2.2.2.1,s30.2.2.2.2.2.1,s30.2.2.2.2.2.2)))) (fun i=>(true,x.Voter,x.Ciphers,(x.Proofs++[x.Sum]).take i,[],[],[])) rfl fun i hi=>by
   have hi2:i<(x.Proofs++[x.Sum]).length:=by simpa using hi
   have o:=O.p _ (List.getElem_mem hi2);refine zaK hi ?_;rw[List.getElem_map];refine zac (zAZ o) (zac (a:=true) rfl (zak (by rw[List.length_take];simp at hi2⊢;omega) (zab ?_)));rw[List.take_succ_eq_append_getElem hi2]
 have hln:((x.Proofs++[x.Sum]).map zfG).length=(x.Proofs++[x.Sum]).length:=List.length_map ..;rw[hln,List.take_length]at hS;have hn:(x.Proofs++[x.Sum]).length=x.Proofs.length+1:=by simp
 have w:i64.wrap (((x.Proofs++[x.Sum]).length:Int)-1)=(x.Proofs.length:Int):=by rw[zah (by omega) (by omega)];omega
 have hlast:ix (x.Proofs++[x.Sum]) (x.Proofs.length:Int)=some x.Sum:=by
  rw[zbB (by omega)];simp
 have hx:(Sealed.mk x.Voter x.Ciphers ((x.Proofs++[x.Sum]).take x.Proofs.length) x.Sum)=x:=by rw[List.take_left]
 refine zaj (zac hsp (zae (ψ:=(· =false)) (zaB rfl (zaB (decide_eq_false (by dsimp only;omega)) (zac h0 (zab rfl)))) ?_));rintro _ rfl;refine zaB rfl (zac h1 (zac (zB6 O.n O.c) (zac h0 (zac (a:=x.Voter) rfl (zak (by dsimp only;omega) ?_)))));dsimp only;rw[hdr,hln];refine zac hS ?_;dsimp only;rw[w];refine zac hlast (zak (by omega) (zak (by rw[Int.toNat_natCast];omega) ?_));rw[Int.toNat_natCast,hx];refine zac (zux O) (zae (ψ:=(· =false)) (zaB rfl (zaB rfl (zac (zn0 _ _) (zab (by simp))))) ?_);rintro _ rfl;exact zaB rfl (zab rfl)
theorem zuc{a0:List Int}{at_ seed n:Int}(hb:Bt code)(h:Cu code n (a0,at_,seed))(hn:n≤1000000000000):Rn (zcg a0 at_ seed) (fun z=>(z.2.2.2.2.1.length≤41∧Gw z.1)∧Cu code (n+5000) z.2.2.2.2.2.2):=by
 unfold zcg;refine zae (zvO hb h (by omega)) fun z1 ⟨g1,y1⟩=>zae (znP hb y1 (by omega)) fun z2 y2=>?_
 refine zae (ψ:=fun x=>Gw ⟨x.1,x.2.1,x.2.2⟩) (zan (fun _=>zab ⟨by simp,by simp,by simp⟩) fun _=>zab ⟨g1.p,g1.q,g1.g⟩) fun x gx=>?_
 refine zae (zsd hb y2 (by omega)) fun z3 y3=>?_
 refine zae (ψ:=fun v=>Cu code (n+200) v.1) (zej (fun s=>(0≤s.2.2.2.2.2.2∧s.2.2.2.2.2.2≤6)∧Cu code (n+100+12*s.2.2.2.2.2.2) s.1) (fun s=>(6-s.2.2.2.2.2.2).toNat) ⟨⟨by simp,by simp⟩,y3.mono (by simp;omega)⟩ ?_) fun v y4=>?_
 ·rintro s ⟨⟨s1,s2⟩,s3⟩;refine zae (ψ:=fun b=>b=true→s.2.2.2.2.2.2<6) (zan (fun g=>?_) fun _=>zab fun e=>by cases e) fun b hb2=>?_
  ·have g:=of_decide_eq_true g;obtain⟨b,e1,_,_⟩:=zj8 ⟨x.1,x.2.1,x.2.2⟩ ⟨s.2.1,s.2.2.1,s.2.2.2.1,s.2.2.2.2.1,s.2.2.2.2.2.1⟩;exact zac e1 (zab fun _=>g)
  refine zan (fun g=>?_) fun _=>zab (s3.mono (by omega))
  have g:=hb2 g;refine zae (zqZ hb s3 (by omega)) fun z4 y4=>zab ?_
  rw[zah (n:=s.2.2.2.2.2.2+1) (by omega) (by omega)];exact⟨⟨⟨by show 0≤s.2.2.2.2.2.2+1;omega,by show s.2.2.2.2.2.2+1≤6;omega⟩,y4.mono (by show _≤n+100+12*(s.2.2.2.2.2.2+1);omega)⟩,by show(6-(s.2.2.2.2.2.2+1)).toNat<(6-s.2.2.2.2.2.2).toNat;omega⟩
 refine zae (zxq hb y4 (by omega)) fun z5 ⟨a5,y5⟩=>?_
 refine zac (ziP _) ?_;refine zae (ψ:=fun v=>∃c:Nat,v=(c:Int)∧c≤300) (zan (fun g=>?_) fun _=>zab ⟨1,rfl,by omega⟩) fun m ⟨c,e,hc⟩=>?_
 ·obtain⟨e1,e2,e3⟩:=zsM (zl5.1 g);exact zac e1 (zab ⟨_,(Int.toNat_of_nonneg e2).symm,by omega⟩)
 subst e;refine zae (zdr hb y5 (by omega)) fun z6 ⟨_,_,_,_,y6⟩=>zae (znP hb y6 (by omega)) fun z7 y7=>?_
 refine zae (ψ:=fun v=>Cu code (n+600) v.1) (zan (fun _=>zae (zfk hb y7 (by omega) (by simp)) fun z8 ⟨_,y8⟩=>zab (y8.mono (by omega))) fun _=>zab (y7.mono (by omega))) fun w y9=>?_
 refine zae (ziS hb y9 (by omega) gx) fun z10 ⟨_,_,y10⟩=>zae (zvU hb y10 (by omega) gx (by omega)) fun z11 hz=>zab ⟨⟨a5,gx⟩,hz.2.mono (by omega)⟩
structure SeS (x:Sealed):Prop where
 n:x.Ciphers.length≤8
 m:x.Proofs.length=x.Ciphers.length
 p:∀z∈x.Proofs++[x.Sum],z.Commits.length≤1000∧z.Challenges.length≤1000∧z.Responses.length≤1000
theorem zGF{x:Sealed}(h:SeS x):seN x:=by
 have hs:=h.p x.Sum (by simp);exact⟨fun p hp=>by have:=h.p p (List.mem_append.2 (.inl hp));omega,by omega,by omega,by omega⟩
theorem zxb{gr:Group}{key:Int}{coins:List Int}{x:Sealed}(O:SeOk x)(H:SeHn gr key ct voter v coins x):SeS x:=by
 refine⟨O.n,(zB2 H).2.2.2.2,fun z hz=>?_⟩;have o:=O.p z hz;have:=o.a;have:=o.b;have:=o.c;exact⟨by omega,by omega,by omega⟩
theorem zGe{gr:Group}{key:Int}{coins:List Int}{x:Sealed}(h:zdx gr key ct voter v coins=some (x,false)):SeS x:=by
 have hz:SeS ⟨0,[],[],⟨[],[],[]⟩⟩:=⟨by simp,rfl,fun z hz=>by rw[List.mem_singleton.1 hz];simp⟩
 unfold zdx at h;generalize ((zb4 gr ct).bind fun z4=>_:Option Bool)=g at h;cases g with
 |none=>cases h
 |some b=>
  cases b with
  |true=>
   have h:some ((⟨0,[],[],⟨[],[],[]⟩⟩:Sealed),false)=some (x,false):=h;cases h;exact hz
  |false=>
   have h:(zfI gr key ct voter v coins).bind (fun z16=>some (z16,true))=some (x,false):=h;cases hs:zfI gr key ct voter v coins with
   |none=>rw[hs]at h;cases h
   |some y=>rw[hs]at h;cases h
theorem zDd{a0:List Int}{at_ seed n:Int}{gr:Group}{x:Sealed}(hb:Bt code)(h:Cu code n (a0,at_,seed))(hn:n≤1000000000000)(k:Gw gr)(S:SeS x):Rn (zcb a0 at_ seed gr x) (fun z=>seN z.1):=by
 have hN:=S.n;have hM:=S.m;have hS:=S.p x.Sum (by simp);have hP:∀p∈x.Proofs,p.Commits.length≤1000∧p.Challenges.length≤1000∧p.Responses.length≤1000:=fun p hp=>S.p p (List.mem_append.2 (.inl hp))
 have hP2:∀p∈x.Proofs,p.Commits.length≤1048576:=fun p hp=>by have:=hP p hp;omega
 unfold zcb;refine zak (by omega) (zak (by omega) (zae (zdr hb h (by omega)) fun z1 ⟨_,_,_,_,y1⟩=>?_));refine zae (ψ:=fun(w:(List Int×Int×Int)×Int×List Cipher×List Proof×List Int×List Int×List Int)=>(∀p∈w.2.2.2.1,p.Commits.length≤1048576)∧w.2.2.2.2.1.length≤1048576∧w.2.2.2.2.2.1.length≤1048576∧w.2.2.2.2.2.2.length≤1048576) ?_ fun w hw=>zab hw
 have hb0:x.Sum.Commits.length≤1048576∧x.Sum.Challenges.length≤1048576∧x.Sum.Responses.length≤1048576:=by omega
 refine zan (fun _=>zae (zfk hb y1 (by omega) (by simp)) fun z _=>zab ⟨hP2,hb0⟩) fun _=>?_
 refine zan (fun _=>zan (fun g=>?_) fun _=>zab ⟨hP2,hb0⟩) fun _=>?_
 ·have g:0<(x.Ciphers.length:Int):=of_decide_eq_true g;exact zae (zjk hb y1 (by omega) (by omega)) fun z9 ⟨p,y9⟩=>zae (ziS hb y9 (by omega) k) fun z10 _=>zac (zu8 p.1 p.2) (zab ⟨hP2,hb0⟩)
 refine zan (fun _=>zan (fun g=>?_) fun _=>zab ⟨hP2,hb0⟩) fun _=>?_
 ·have g:0<(x.Ciphers.length:Int):=of_decide_eq_true g;refine zae (zjk hb y1 (by omega) (by omega)) fun z9 ⟨p,y9⟩=>zac (zu8 (l:=x.Proofs) p.1 (by omega)) ?_
  refine zae (zqL hb y9 (by omega) k (hP _ (List.getElem_mem _))) fun z10 hz=>zab ⟨fun p hp=>?_,hb0⟩
  rcases List.mem_or_eq_of_mem_set hp with hp|rfl
  ·exact hP2 p hp
  have:=hz.1.1;omega
 refine zan (fun _=>zae (zqL hb y1 (by omega) k hS) fun z hz=>zab ⟨hP2,by have:=hz.1.1;show z.1.Commits.length≤_;omega,by have:=hz.1.2.1;show z.1.Challenges.length≤_;omega,by have:=hz.1.2.2;show z.1.Responses.length≤_;omega⟩) fun _=>?_
 refine zan (fun _=>zan (fun g=>?_) fun _=>zab ⟨hP2,hb0⟩) fun _=>?_
 ·have g:0<(x.Ciphers.length:Int):=of_decide_eq_true g;exact zak (by omega) (zab ⟨fun p hp=>hP2 p (List.mem_of_mem_take (List.mem_of_mem_drop hp)),hb0⟩)
 refine zan (fun _=>zan (fun g=>?_) fun _=>zab ⟨hP2,hb0⟩) fun _=>zab ⟨hP2,hb0⟩
 have g:0<(x.Ciphers.length:Int):=of_decide_eq_true g;rw[zah (n:=(x.Ciphers.length:Int)-1) (by omega) (by omega)];exact zak (by omega) (zak (by omega) (zab ⟨hP2,hb0⟩))
theorem zG1(hb:Bt code):Rn (zeJ code) (fun z=>z.2.2.2.2.1.length≤41):=by
 unfold zeJ;exact zae (zuc hb (cu0 code) (by omega)) fun z hz=>zab hz.1.1
theorem zD5(hb:Bt code):Rn (zdm code) (fun z=>seN z.2.2.2):=by
 unfold zdm zem;refine zae (ψ:=fun z=>(Gw z.1∧SeS z.2.2.2.2.1)∧Cu code 10000 z.2.2.2.2.2) ?_ fun z1 ⟨⟨g1,s1⟩,y1⟩=>?_
 ·refine zae (zuc hb (cu0 code) (by omega)) fun z1 ⟨⟨l1,g1⟩,y1⟩=>zae (zpz hb y1 (by omega) g1.q.2) fun z2 hz2=>?_
  refine zac (zks _) (zae (ψ:=fun _=>True) (zan (fun g=>?_) fun _=>zab trivial) fun key _=>?_)
  ·have k:=zjV.1 g;exact zac (pwS k (r_G k) _) (zab trivial)
  obtain⟨y,_,e,hy⟩:=zuf z1.1 key z1.2.2.1 z1.2.2.2.1 (v:=z1.2.2.2.2.1) (coins:=z1.2.2.2.2.2.1) (by omega);refine zac e (zab ⟨⟨g1,?_⟩,hz2.2.2.2.mono (by omega)⟩);obtain⟨y,t⟩:=y;cases t with
  |true=>exact zxb (hy rfl).1 (hy rfl).2
  |false=>exact zGe e
 refine zae (znP hb y1 (by omega)) fun z2 y2=>zae (ψ:=fun w=>Cu code 10100 w.1) (zan (fun _=>zae (ziS hb y2 (by omega) g1) fun z7 hz=>zab (hz.2.2.mono (by omega))) fun _=>zab (y2.mono (by omega))) fun w hw=>?_
 exact zae (zDd hb hw (by omega) g1 s1) fun z8 hz=>zab hz
theorem zFm(l:List Cipher):zeL l l=some true:=by
 unfold zeL;refine zaj (zaB (by simp) (zae (ψ:=fun v=>v=.inl ()) (za3 (fun _ _=>True) trivial ?_ fun s _=>rfl) ?_))
 ·rintro i s hi _;exact zaK hi (zaK hi (zaB (by simp) (zab trivial)))
 rintro _ rfl;exact zab rfl
theorem zzF(x:Sealed):zd8 x x=some true:=by
 unfold zd8;refine zaj (zae (ψ:=(· =false)) (zaB (by simp) (zac (zFm _) (zaB rfl (zaB (by simp) (zac (zzK _) (zab rfl)))))) ?_);rintro _ rfl;refine zaB rfl (zae (ψ:=fun v=>v=.inl ()) (za3 (fun _ _=>True) trivial ?_ fun s _=>rfl) ?_)
 ·rintro i s hi _;exact zaK hi (zaK hi (zac (zzK _) (zaB rfl (zab trivial))))
 rintro _ rfl;exact zab rfl
theorem zDe{l:List Int}(h:∀x∈l,0≤x∧x≤255):Rn (zgb l) (fun z=>0≤z):=by
 unfold zgb;refine zae (ψ:=fun z=>0≤z∧z<1000003) (za3 (fun _ s=>0≤s∧s<1000003) (by omega) ?_ fun s h=>h) fun z hz=>zab hz.1
 rintro i s hi ⟨h0,h1⟩;have hx:=h _ (List.getElem_mem hi);refine zaK hi (zab ?_);rw[zah (n:=31*s) (by omega) (by omega),zah (n:=l[i]) (by omega) (by omega),zah (n:=31*s+l[i]) (by omega) (by omega),Int.tmod_eq_emod_of_nonneg (by omega)];exact⟨Int.emod_nonneg _ (by omega),Int.emod_lt_of_pos _ (by omega)⟩
theorem zBt(gr:Group)(x:Int):Rn (zhh gr x) (fun z=>z.2=true→OkG gr∧E9 gr.Q x∧z.1=zao gr gr.G x):=by
 unfold zhh;rw[zks];cases hg:okG gr with
 |false=>exact zac (a:=true) rfl (zee rfl (zab fun h=>by cases h))
 |true=>
  have k:=zjV.1 hg;have hq:=k.q;have hp:=k.p;rw[Option.bind_some,zn9 (gr:=gr) (by omega) (by omega)];cases he:[x].all (zdU gr)with
  |false=>exact zac (a:=true) rfl (zee rfl (zab fun h=>by cases h))
  |true=>exact zac (a:=false) rfl (zaB rfl (zac (pwS k (r_G k) _) (zab fun _=>⟨k,zf5.1 (by simpa using he),rfl⟩)))
theorem zHq(a b:List Int)(h0:∀x∈a,0≤x∧x≤255)(h1:∀x∈b,0≤x∧x≤255)(hl0:a.length≤1048576)(hl1:b.length≤1048576):zgk a b=some true:=by
 have hba:Bt a:=⟨h0,by omega⟩
 have hbb:Bt b:=⟨h1,by omega⟩
 unfold zgk zjX;refine zaj (zae (ψ:=fun _=>True) (zae (ψ:=fun _=>True) (zan (fun _=>zab trivial) fun _=>zab trivial) fun _ _=>zab trivial) fun g _=>zan (fun _=>zab rfl) fun _=>?_);refine zae (zG1 hba) fun z hz=>zae (zDe h1) fun z4 hz4=>?_
 obtain⟨gr,k0,ct,voter,v,coins⟩:=z;have hz:v.length≤41:=hz;dsimp only;refine zae (ψ:=fun t=>t=false→¬gr.Q<2) (zan (fun _=>zab fun h=>by cases h) fun _=>zab fun h=>of_decide_eq_false h) fun x7 hx7=>?_
 refine zae (ψ:=fun _=>True) (zan (fun _=>zab trivial) fun h=>zak (by have:=hx7 (by simpa using h);omega) (zab trivial)) fun sec _=>?_
 refine zae (zBt gr sec) fun key hk=>zan (fun _=>zab rfl) fun hkt=>?_
 obtain⟨kg,hs,hke⟩:=hk (by simpa using hkt);rw[hke];obtain⟨⟨x,t⟩,s1,s2,s3⟩:=zuf gr (zao gr gr.G sec) ct voter (v:=v) (coins:=coins) (by omega);refine zac s1 (zac s2 (zae (ψ:=(· =false)) (zaB (by simp) (zac (zzF _) (zab rfl))) ?_));rintro _ rfl;refine zaB rfl (zae (ψ:=(· =.inl ())) ?_ ?_)
 ·cases t with
  |false=>exact zaB rfl (zab rfl)
  |true=>
   obtain⟨O,H⟩:=s3 rfl;obtain⟨y,v1,v2,v3⟩:=zyc gr (zao gr gr.G sec) ct (zGF (zxb O H));have hy:=v3 H.g H.hk;rw[zLd H]at hy;subst hy;refine zee rfl (zac v1 (zac (zBw H hs (by omega)) (zae (ψ:=(· =false)) (zaB rfl (zaB rfl (zaB rfl (zac zmr (zab rfl))))) ?_)));rintro _ rfl;refine zaB rfl (zac (zux O) (zac (zzY O) (zae (ψ:=(· =false)) (zee rfl (zaB rfl (zac (zzF _) (zab rfl)))) ?_)));rintro _ rfl;exact zaB rfl (zab rfl)
 rintro _ rfl;refine zae (zD5 hbb) fun u hu=>?_
 obtain⟨w,w1,w2,_⟩:=zyc u.1 u.2.1 u.2.2.1 hu;exact zac w1 (zac w2 (zac (a:=true) (zaj (zee (by simp) (zab (by simp)))) (zab rfl)))
end Go.Pm
