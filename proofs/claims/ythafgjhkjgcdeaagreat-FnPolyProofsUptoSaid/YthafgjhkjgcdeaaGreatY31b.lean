/-
  FnPolyProofs: plain laws.
  No condition.
-/
import Derived.Test.YthafgjhkjgcdeaaGreatY31
namespace Go.Pm
open Go.Am
set_option linter.unusedVariables false
set_option linter.unusedSimpArgs false
abbrev pp0:PolyProof:=⟨[],[],[],⟨[],[],[]⟩⟩
theorem zhU {l:List Int}{n m:Nat}(h:l.length=n+m):∃a r,l=a++r∧a.length=n∧r.length=m:=⟨l.take n,l.drop n,(List.take_append_drop n l).symm,by simp;omega,by simp;omega⟩
theorem zCX {q:Int}{n:Nat}{coins:List Int}(hl:coins.length=8*n+2) (he:∀z∈coins,E9 q z):∃C:Pc,coins=C.cs∧PcOk q n C:=by
 obtain⟨a,r,rfl,ha,h1⟩:=zhU (l:=coins) (n:=n) (m:=7*n+2) (by omega)
 obtain⟨b,r,rfl,hb,h2⟩:=zhU (l:=r) (n:=n) (m:=6*n+2) (by omega)
 obtain⟨c,r,rfl,hc,h3⟩:=zhU (l:=r) (n:=n) (m:=5*n+2) (by omega)
 obtain⟨w,r,rfl,hw,h4⟩:=zhU (l:=r) (n:=n) (m:=4*n+2) (by omega)
 obtain⟨v,r,rfl,hv,h5⟩:=zhU (l:=r) (n:=n) (m:=3*n+2) (by omega)
 obtain⟨s,r,rfl,hs,h6⟩:=zhU (l:=r) (n:=n) (m:=2*n+2) (by omega)
 match r,h6 with
 |g::r,h6=>
  simp only[List.length_cons]at h6
  obtain⟨k,r,rfl,hk,h7⟩:=zhU (l:=r) (n:=n) (m:=n+1) (by omega)
  obtain⟨m,r,rfl,hm,h8⟩:=zhU (l:=r) (n:=n) (m:=1) (by omega)
  match r,h8 with
  |[f],_=>
   refine⟨⟨a,b,c,w,v,s,g,k,m,f⟩,rfl,⟨ha,fun z hz=>he z ?_⟩,⟨hb,fun z hz=>he z ?_⟩,⟨hc,fun z hz=>he z ?_⟩,⟨hw,fun z hz=>he z ?_⟩,⟨hv,fun z hz=>he z ?_⟩,⟨hs,fun z hz=>he z ?_⟩,he g ?_,⟨hk,fun z hz=>he z ?_⟩,⟨hm,fun z hz=>he z ?_⟩,he f ?_⟩<;>simp_all
  |[],h=>simp at h
  |_::_::_,h=>simp at h
 |[],h6=>simp at h6
structure PpX (gr:Group) (key:Int) (l:List Cipher) (perm rs coins:List Int) (p:PolyProof):Prop where
 k:OkG gr
 x:∃(B:Bases) (C:Pc),coins=C.cs∧PpOk gr key B.H l perm rs C∧p=ppV gr key B.H l perm rs C∧zav gr 0=some (B,true)
theorem zqw {gr:Group}(k:OkG gr) (hd:okD gr=true) (key:Int) {l:List Cipher}(hl:l.length≤13):∃B,zcX gr 0=some (B,true)∧zav gr 0=some (B,true)∧zay gr B.H=true∧zcL gr key l=some (if mkB gr key l=true then(B,true)else(⟨0,[]⟩,false)):=by
 obtain⟨Bn,_,b2,_⟩:=zsR k hd (n:=l.length) hl
 obtain⟨B,c1,c2,c3⟩:=zsR k hd (n:=0) (by omega)
 have c2:zav gr 0=some (B,true):=c2
 refine⟨B,c1,c2,c3.h,?_⟩
 unfold zcL
 rw[zkC k key l b2,c2]
 cases mkB gr key l<;>rfl
theorem zoL {gr:Group}(k:¬OkG gr) (key:Int) (l:List Cipher):zcL gr key l=some (⟨0,[]⟩,false):=by
 unfold zcL
 rw[zry k];rfl
theorem zyn (gr:Group) (hg:Dg gr) (key:Int) {l:List Cipher}(hl:l.length≤13) (perm rs coins:List Int):∃p t,zdr gr key l perm rs coins=some (p,t)∧zcM gr key l perm rs coins=some (p,t)∧(t=false→p=pp0)∧(t=true→PpX gr key l perm rs coins p):=by
 have w8:IntKind.i64.wrap (IntKind.i64.wrap (8*(l.length:Int))+2)=((8*l.length+2:Nat):Int):=by
  rw[zaj (n:=8*(l.length:Int)) (by omega) (by omega)];exact zcH (by omega) (by omega)
 by_cases k:OkG gr
 ·have hq:=k.q
  have hp:=k.p
  obtain⟨B,b1,b2,b3,b4⟩:=zqw k (hg k) key hl
  have e2:((rs.length:Int) !=(l.length:Int))= !decide (rs.length=l.length):=by by_cases h:rs.length=l.length<;>simp[h];omega
  have e3:((coins.length:Int) !=((8*l.length+2:Nat):Int))= !decide (coins.length=8*l.length+2):=by by_cases h:coins.length=8*l.length+2<;>simp[h];omega
  have I:zdr gr key l perm rs coins=if(mkB gr key l&&(pkB gr l.length perm rs&&(decide (coins.length=8*l.length+2)&&coins.all (zet gr))))=true then(zcs gr B key l perm rs coins).bind (fun z=>some (z.1,z.2))else some (pp0,false):=by
   unfold zdr
   rw[b4,zkM k (by omega),show(decide (perm.length=l.length)&&zeZ perm&&(decide (rs.length=l.length)&&rs.all (zet gr)))=pkB gr l.length perm rs from rfl,w8,e3,zk5 (by omega) (by omega)]
   cases mkB gr key l<;>cases pkB gr l.length perm rs<;>cases decide (coins.length=8*l.length+2)<;>cases coins.all (zet gr)<;>rfl
  have S:zcM gr key l perm rs coins=if(mkB gr key l&&(pkB gr l.length perm rs&&(decide (coins.length=8*l.length+2)&&coins.all (zet gr))))=true then(ze0 gr key B.H l perm rs coins).bind (fun z=>some (z,true))else some (pp0,false):=by
   unfold zcM zfu
   rw[zlY k,show(zay gr key&&(inB 1 12 l.length&&l.all (zbS gr)))=mkB gr key l from rfl,zsc perm l.length (by omega),zl6 (l:=rs) (by omega) (by omega),zl6 (l:=coins) (by omega) (by omega),e2,w8,e3,b1]
   unfold pkB
   cases mkB gr key l<;>cases (decide (perm.length=l.length)&&zeZ perm)<;>cases decide (rs.length=l.length)<;>cases rs.all (zet gr)<;>cases decide (coins.length=8*l.length+2)<;>cases coins.all (zet gr)<;>rfl
  by_cases hc:(mkB gr key l&&(pkB gr l.length perm rs&&(decide (coins.length=8*l.length+2)&&coins.all (zet gr))))=true
  ·rw[if_pos hc]at I S
   obtain⟨h1,h23⟩:=Bool.and_eq_true_iff.1 hc
   obtain⟨h2,h34⟩:=Bool.and_eq_true_iff.1 h23
   obtain⟨h3,h4⟩:=Bool.and_eq_true_iff.1 h34
   have m:=zjX.1 (show(mkB gr key l&&pkB gr l.length perm rs)=true by rw[h1,h2];rfl)
   obtain⟨C,rfl,hC⟩:=zCX (of_decide_eq_true h3) (zvB h4)
   have P:PpOk gr key B.H l perm rs C:=⟨m,b3,hC⟩
   rw[zBj k P]at I
   rw[zAM k P]at S
   exact⟨ppV gr key B.H l perm rs C,true,I,S,fun h=>(by cases h),fun _=>⟨k,B,C,rfl,P,rfl,b2⟩⟩
  rw[if_neg hc]at I S
  exact⟨pp0,false,I,S,fun _=>rfl,fun h=>by cases h⟩
 refine⟨pp0,false,?_,?_,fun _=>rfl,fun h=>by cases h⟩
 ·unfold zdr
  rw[zoL k];rfl
 unfold zcM
 rw[zmA k];rfl
theorem zyx {gr:Group}{key:Int}{l:List Cipher}(hl:l.length≤13) {perm rs coins:List Int}{p:PolyProof}(h:PpX gr key l perm rs coins p):p.Places.length≤1000∧p.Powers.length≤1000∧p.Chain.length≤1000∧p.Pi.Commits.length≤1000∧p.Pi.Challenges.length≤1000∧p.Pi.Responses.length≤1000:=by
 obtain⟨k,B,C,_,P,rfl,_⟩:=h
 have h4:=(znv k P).1
 refine⟨?_,?_,?_,?_,by simp[ppV],by simp[ppV,rsV,zak];omega⟩
 ·show(rg _ l.length).length≤_;rw[zak];omega
 ·show(rg _ l.length).length≤_;rw[zak];omega
 ·show(rg _ l.length).length≤_;rw[zak];omega
 show(ppM gr key B.H l perm rs C).length≤_;omega
def spB (gr:Group) (n:Nat) (p:PolyProof):Bool:=decide (p.Places.length=n)&&(decide (p.Powers.length=n)&&(decide (p.Chain.length=n)&&(decide (p.Pi.Commits.length=3*n+3)&&(decide (p.Pi.Challenges.length=1)&&(decide (p.Pi.Responses.length=5*n+2)&&(p.Places.all (zay gr)&&(p.Powers.all (zay gr)&&(p.Chain.all (zay gr)&&(p.Pi.Commits.all (zay gr)&&p.Pi.Responses.all (zet gr))))))))))
theorem zwv {gr:Group}(k:OkG gr) {n:Nat}(hn:n≤1000) (p:PolyProof):zc1 gr p (n:Int)=some (spB gr n p):=by
 have hq:=k.q
 have hp:=k.p
 have e1:IntKind.i64.wrap (IntKind.i64.wrap (3*(n:Int))+3)=((3*n+3:Nat):Int):=by
  rw[zaj (n:=3*(n:Int)) (by omega) (by omega)];exact zcH (by omega) (by omega)
 have e2:IntKind.i64.wrap (IntKind.i64.wrap (5*(n:Int))+2)=((5*n+2:Nat):Int):=by
  rw[zaj (n:=5*(n:Int)) (by omega) (by omega)];exact zcH (by omega) (by omega)
 have e3:((p.Pi.Challenges.length:Int)==1)=decide (p.Pi.Challenges.length=1):=zdS _ 1
 unfold zc1
 rw[e1,e2,zdS,zdS,zdS,zdS,zdS,e3,zhP k,zhP k,zhP k,zhP k,zk5 (by omega) (by omega)]
 unfold spB
 generalize decide (p.Places.length=n)=a1
 generalize decide (p.Powers.length=n)=a2
 generalize decide (p.Chain.length=n)=a3
 generalize decide (p.Pi.Commits.length=3*n+3)=a4
 generalize decide (p.Pi.Challenges.length=1)=a5
 generalize decide (p.Pi.Responses.length=5*n+2)=a6
 generalize p.Places.all (zay gr)=a7
 generalize p.Powers.all (zay gr)=a8
 generalize p.Chain.all (zay gr)=a9
 generalize p.Pi.Commits.all (zay gr)=a10
 generalize p.Pi.Responses.all (zet gr)=a11
 cases a1
 ·rfl
 cases a2
 ·rfl
 cases a3
 ·rfl
 cases a4
 ·rfl
 cases a5
 ·rfl
 cases a6
 ·rfl
 cases a7
 ·rfl
 cases a8
 ·rfl
 cases a9
 ·rfl
 cases a10<;>rfl
theorem zwj {gr:Group}(k:OkG gr) {n:Nat}(hn:n≤1000) (p:PolyProof):zf0 gr (n:Int) p=some (spB gr n p):=by
 have hq:=k.q
 have hp:=k.p
 have e1:IntKind.i64.wrap (IntKind.i64.wrap (3*(n:Int))+3)=((3*n+3:Nat):Int):=by
  rw[zaj (n:=3*(n:Int)) (by omega) (by omega)];exact zcH (by omega) (by omega)
 have e2:IntKind.i64.wrap (IntKind.i64.wrap (5*(n:Int))+2)=((5*n+2:Nat):Int):=by
  rw[zaj (n:=5*(n:Int)) (by omega) (by omega)];exact zcH (by omega) (by omega)
 have e3:((p.Pi.Challenges.length:Int)==1)=decide (p.Pi.Challenges.length=1):=zdS _ 1
 unfold zf0
 rw[e1,e2,zdS,zdS,zdS,zdS,zdS,e3,zlJ k,zlJ k,zlJ k,zlJ k,zl6 (by omega) (by omega)]
 unfold spB
 generalize decide (p.Places.length=n)=a1
 generalize decide (p.Powers.length=n)=a2
 generalize decide (p.Chain.length=n)=a3
 generalize decide (p.Pi.Commits.length=3*n+3)=a4
 generalize decide (p.Pi.Challenges.length=1)=a5
 generalize decide (p.Pi.Responses.length=5*n+2)=a6
 generalize p.Places.all (zay gr)=a7
 generalize p.Powers.all (zay gr)=a8
 generalize p.Chain.all (zay gr)=a9
 generalize p.Pi.Commits.all (zay gr)=a10
 generalize p.Pi.Responses.all (zet gr)=a11
 cases a1
 ·rfl
 cases a2
 ·rfl
 cases a3
 ·rfl
 cases a4
 ·rfl
 cases a5
 ·rfl
 cases a6
 ·rfl
 cases a7
 ·rfl
 cases a8
 ·rfl
 cases a9
 ·rfl
 cases a10<;>rfl
def pxN (q x:Int):Nat→Int
 |0=>1
 |i+1=>(pxN q x i*x)%q
def tgN (q x y z:Int):Nat→Int
 |0=>1
 |i+1=>(tgN q x y z i*((y*((i:Int)+1)+pxN q x (i+1)-z)%q))%q
theorem zpv {q:Int}(hq:1<q) (x:Int):∀i,E9 q (pxN q x i)
 |0=>⟨by show(0:Int)≤1;omega,hq⟩
 |i+1=>zdB (by omega) _
theorem zpk {q:Int}(hq:1<q) (x y z:Int):∀i,E9 q (tgN q x y z i)
 |0=>⟨by show(0:Int)≤1;omega,hq⟩
 |i+1=>zdB (by omega) _
theorem zzt {q:Int}(hq:0<q∧q≤2000000000) (a:Int):ze6 a q=some (a%q):=ztq hq.1 hq.2
theorem zwl {q:Int}(hq:1<q∧q≤2000000000) {n:Nat}(hn:n≤100) {x y z:Int}(hx:E9 q x) (hy:E9 q y) (hz:E9 q z):zcU q (n:Int) x y z=some (tgN q x y z n):=by
 have hq2:0<q∧q≤2000000000:=by omega
 have hQ:q≠0:=by omega
 unfold zcU
 refine zaB (zaf (ψ:=(· =tgN q x y z n)) (zc3 n (fun i s=>s=(tgN q x y z i,pxN q x i,(i:Int)+1)∧i≤n) ⟨rfl,by omega⟩ ?_ ?_) fun v hv=>zac hv)
 ·rintro i s hi ⟨rfl,_⟩
  have hpx:=zpv hq.1 x i
  have htg:=zpk hq.1 x y z i
  have m1:=(e_m (q:=q) hq.2 hpx hx).2
  have h1:0≤y*((i:Int)+1):=Int.mul_nonneg hy.1 (by omega)
  have h2:y*((i:Int)+1)≤2000000000*101:=Int.mul_le_mul (by have:=hy.2;omega) (by omega) (by omega) (by omega)
  have b1:=zdB hq2.1 (y*((i:Int)+1))
  have b2:=zdB hq2.1 (pxN q x i*x)
  refine zgu (by simp;omega) (zah hQ (zah hQ ?_))
  dsimp only
  rw[m1,zaj (n:=y*((i:Int)+1)) (by omega) (by omega),Int.tmod_eq_emod_of_nonneg h1,zaj (n:=y*((i:Int)+1)%q+pxN q x i*x%q) (by have:=b1.1;have:=b2.1;omega) (by have:=b1.2;have:=b2.2;omega),zaj (by have:=b1.1;have:=b2.1;have:=hz.2;omega) (by have:=b1.2;have:=b2.2;have:=hz.1;omega)]
  refine zab (zzt hq2 _) (zah hQ (zac ?_))
  have e:(y*((i:Int)+1)%q+pxN q x i*x%q-z)%q=(y*((i:Int)+1)+pxN q x (i+1)-z)%q:=by
   show _=(y*((i:Int)+1)+pxN q x i*x%q-z)%q
   rw[Int.sub_emod,Int.add_emod,Int.emod_emod,Int.emod_emod,Int.sub_emod (y*((i:Int)+1)+_),Int.add_emod (y*((i:Int)+1)),Int.emod_emod]
  rw[e,(e_m (q:=q) hq.2 htg (zdB hq2.1 _)).2,zaj (n:=(i:Int)+1+1) (by omega) (by omega)]
  refine⟨?_,by omega⟩
  show _=(tgN q x y z (i+1),pxN q x (i+1),((i+1:Nat):Int)+1)
  rfl
 rintro s ⟨rfl,_⟩
 exact za9 (by simp;omega) (zac rfl)
theorem zCP {q:Int}(hq:1<q∧q≤2000000000) {n:Nat}(hn:n≤100) {x y z:Int}(hx:E9 q x) (hy:E9 q y) (hz:E9 q z):zfx q (n:Int) x y z=some (tgN q x y z n):=by
 have hq2:0<q∧q≤2000000000:=by omega
 have hQ:q≠0:=by omega
 unfold zfx
 refine zaB (zah hQ (zaf (ψ:=(· =tgN q x y z n)) (zc3 n (fun i s=>s=(tgN q x y z i,pxN q x i,(i:Int)+1)∧i≤n) ⟨?_,by omega⟩ ?_ ?_) fun v hv=>zac hv))
 ·have e:(1:Int).tmod q=1:=by rw[Int.tmod_eq_emod_of_nonneg (by omega),Int.emod_eq_of_lt (by omega) (by omega)]
  rw[e];rfl
 ·rintro i s hi ⟨rfl,_⟩
  have hpx:=zpv hq.1 x i
  have htg:=zpk hq.1 x y z i
  have m1:=(e_m (q:=q) hq.2 hpx hx).2
  have b0:=zdB hq2.1 ((i:Int)+1)
  have h1:0≤y*(((i:Int)+1)%q):=Int.mul_nonneg hy.1 b0.1
  have h2:y*(((i:Int)+1)%q)≤2000000000*2000000000:=Int.mul_le_mul (by have:=hy.2;omega) (by have:=b0.2;omega) b0.1 (by omega)
  have b2:=zdB hq2.1 (pxN q x i*x)
  refine zgu (by simp;omega) (zah hQ (zah hQ ?_))
  dsimp only
  rw[m1,Int.tmod_eq_emod_of_nonneg (a:=(i:Int)+1) (by omega),zaj (n:=y*(((i:Int)+1)%q)) (by omega) (by omega),zaj (n:=y*(((i:Int)+1)%q)+pxN q x i*x%q) (by have:=b2.1;omega) (by have:=b2.2;omega),zaj (by have:=b2.1;have:=hz.2;omega) (by have:=b2.2;have:=hz.1;omega)]
  refine zab (zi9 hq2.1 hq2.2) (zah hQ (zac ?_))
  have e:(y*(((i:Int)+1)%q)+pxN q x i*x%q-z)%q=(y*((i:Int)+1)+pxN q x (i+1)-z)%q:=by
   show _=(y*((i:Int)+1)+pxN q x i*x%q-z)%q
   rw[Int.sub_emod,Int.add_emod,Int.mul_emod,Int.emod_emod,←Int.mul_emod,←Int.add_emod,←Int.sub_emod]
  rw[e,(e_m (q:=q) hq.2 htg (zdB hq2.1 _)).2,zaj (n:=(i:Int)+1+1) (by omega) (by omega)]
  exact⟨rfl,by omega⟩
 rintro s ⟨rfl,_⟩
 exact za9 (by simp;omega) (zac rfl)
def upN (q x:Int) (i:Nat):Int:=((x.toNat^(i+1)%q.toNat:Nat):Int)
theorem zwp {gr:Group}(k:OkG gr) {x:Int}(hx:E9 gr.Q x) {i:Nat}(hi:i≤100):zbE x (IntKind.i64.wrap ((i:Int)+1)) gr.Q=some (upN gr.Q x i)∧za6 x ((i:Int)+1) gr.Q=some (upN gr.Q x i):=by
 have h:=zvd k hx (p:=(i:Int)) (by omega)
 have e:((i:Int)+1).toNat=i+1:=by omega
 have w:IntKind.i64.wrap ((i:Int)+1)=(i:Int)+1:=zaj (by omega) (by omega)
 rw[e]at h
 exact⟨h.1,by rw[w]at h;exact h.2⟩
theorem zCG {gr:Group}(k:OkG gr) {n:Nat}(hn:n≤100) {x:Int}(hx:E9 gr.Q x):zfy gr (n:Int) x=some (rg (upN gr.Q x) n):=by
 unfold zfy
 refine zaB (zaf (ψ:=(· =rg (upN gr.Q x) n)) (zc3 n (fun i s=>s=(rg (upN gr.Q x) i,(i:Int)+1)∧i≤n) ⟨rfl,by omega⟩ ?_ ?_) fun v hv=>zac hv)
 ·rintro i s hi ⟨rfl,_⟩
  refine zgu (by simp;omega) (zab (zwp k hx (by omega)).2 (zah (by dsimp only;rw[zak];omega) (zac ⟨?_,by omega⟩)))
  dsimp only
  rw[zaj (n:=(i:Int)+1+1) (by omega) (by omega),zg2];rfl
 rintro s ⟨rfl,_⟩
 exact za9 (by simp;omega) (zac rfl)
theorem zjS {gr:Group}(k:OkG gr) {x y w z:Int}(b:Bool) (hx:R9 x) (hy:R9 y):zax x y w b gr.P gr.Q gr.G z=some (b&&(zbV gr [x,zaW gr y z]==w)):=by
 unfold zax
 cases b
 ·rfl
 show(zam gr y z).bind _=_
 rw[pwI k hy,Option.bind_some]
 show(zaz gr _).bind _=_
 rw[m2I k hx (zbu k _ _),Option.bind_some]
 rfl
structure Rp where
 s1:List Int
 s2:List Int
 s3:List Int
 g:Int
 kk:List Int
 mm:List Int
 f:Int
def Rp.cs (R:Rp):List Int:=R.s1++(R.s2++(R.s3++(R.g::(R.kk++(R.mm++[R.f])))))
structure RpOk (n:Nat) (R:Rp):Prop where
 s1:R.s1.length=n
 s2:R.s2.length=n
 s3:R.s3.length=n
 kk:R.kk.length=n
 mm:R.mm.length=n
theorem zCp {n:Nat}{r:List Int}(hl:r.length=5*n+2):∃R:Rp,r=R.cs∧RpOk n R:=by
 obtain⟨a,r,rfl,ha,h1⟩:=zhU (l:=r) (n:=n) (m:=4*n+2) (by omega)
 obtain⟨b,r,rfl,hb,h2⟩:=zhU (l:=r) (n:=n) (m:=3*n+2) (by omega)
 obtain⟨c,r,rfl,hc,h3⟩:=zhU (l:=r) (n:=n) (m:=2*n+2) (by omega)
 match r,h3 with
 |g::r,h3=>
  simp only[List.length_cons]at h3
  obtain⟨k,r,rfl,hk,h7⟩:=zhU (l:=r) (n:=n) (m:=n+1) (by omega)
  obtain⟨m,r,rfl,hm,h8⟩:=zhU (l:=r) (n:=n) (m:=1) (by omega)
  match r,h8 with
  |[f],_=>exact⟨⟨a,b,c,g,k,m,f⟩,rfl,ha,hb,hc,hk,hm⟩
  |[],h=>simp at h
  |_::_::_,h=>simp at h
 |[],h3=>simp at h3
def alB (f:Nat→Bool):Nat→Bool
 |0=>true
 |i+1=>alB f i&&f i
def q1 (gr:Group) (h y z T:Int) (p:PolyProof) (R:Rp) (i:Nat):Bool:=zbV gr [p.Pi.Commits.getD i 0,zaW gr (zbV gr [zaW gr (p.Places.getD i 0) y,p.Powers.getD i 0,zaW gr gr.G (IntKind.i64.wrap (0-z))]) T]==vc gr h (R.s1.getD i 0) (R.s2.getD i 0)
def q2 (gr:Group) (h T:Int) (p:PolyProof) (R:Rp) (n i:Nat):Bool:=zbV gr [p.Pi.Commits.getD (n+i) 0,zaW gr (p.Chain.getD i 0) T]==zbV gr [zaW gr (bef gr.G p.Chain i) (R.s1.getD i 0),zaW gr h (R.s3.getD i 0)]
def q4 (gr:Group) (h T:Int) (p:PolyProof) (R:Rp) (n i:Nat):Bool:=zbV gr [p.Pi.Commits.getD (2*n+1+i) 0,zaW gr (p.Powers.getD i 0) T]==vc gr h (R.kk.getD i 0) (R.mm.getD i 0)
section
variable {gr:Group}{p:PolyProof}{R:Rp}{n:Nat}
theorem zqK (k:OkG gr) {x y z:Int}(hx:R9 x) (hy:R9 y) (hz:R9 z):R9 (zbV gr [x,y,z])∧zaz gr [x,y,z]=some (zbV gr [x,y,z])∧za1 gr [x,y,z]=some (zbV gr [x,y,z]):=by
 have h:∀v∈[x,y,z],0≤v∧v≤2000000000:=by
  intro v hv
  simp only[List.mem_cons,List.not_mem_nil,or_false]at hv
  rcases hv with rfl|rfl|rfl<;>assumption
 exact⟨zwi k h,zl8 k h,zpF k h⟩
theorem zxD (k:OkG gr) {B:Bases}(hh:R9 B.H) (hn:n≤12) (hp:p.Places.length=n∧∀z∈p.Places,zay gr z=true) (hw:p.Powers.length=n∧∀z∈p.Powers,zay gr z=true) (hc:p.Chain.length=n∧∀z∈p.Chain,zay gr z=true) (hm:p.Pi.Commits.length=3*n+3∧∀z∈p.Pi.Commits,zay gr z=true) (hr:RpOk n R) {x y z T:Int}(hx:E9 gr.Q x):zap (σ:=(List Int)×Bool) (fun i66 s65=>
 (zbE x (IntKind.i64.wrap (i66+1)) gr.Q).bind fun z72=>
 gd ((s65.1.length+1)*8≤140737488355328∧s65.1.length+1≤4611686018427387904)<|
 (ix p.Pi.Commits i66).bind fun x73=>
 (ix p.Places i66).bind fun x74=>
 (ix p.Powers i66).bind fun x75=>
 (ix R.s1 i66).bind fun x76=>
 (ix R.s2 i66).bind fun x77=>
 (zam gr x74 y).bind fun z78=>
 (zam gr gr.G (IntKind.i64.wrap (0-z))).bind fun z79=>
 (zaz gr [z78,x75,z79]).bind fun z80=>
 (zaS gr B x76 x77).bind fun z81=>
 (zax x73 z80 z81 s65.2 gr.P gr.Q gr.G T).bind fun z82=>
 (ix p.Pi.Commits (IntKind.i64.wrap ((n:Int)+i66))).bind fun x83=>
 (ix p.Chain i66).bind fun x84=>
 (ix ([gr.G]++p.Chain) i66).bind fun x85=>
 (ix R.s3 i66).bind fun x86=>
 (zam gr x85 x76).bind fun z87=>
 (zam gr B.H x86).bind fun z88=>
 (zaz gr [z87,z88]).bind fun z89=>
 (zax x83 x84 z89 z82 gr.P gr.Q gr.G T).bind fun z90=>
 (ix p.Pi.Commits (IntKind.i64.wrap ((IntKind.i64.wrap ((IntKind.i64.wrap (2*(n:Int)))+1))+i66))).bind fun x91=>
 (ix R.kk i66).bind fun x92=>
 (ix R.mm i66).bind fun x93=>
 (zaS gr B x92 x93).bind fun z94=>
 (zax x91 x75 z94 z90 gr.P gr.Q gr.G T).bind fun z95=>
 some (.go (s65.1++[z72],z95))) (fun s65=>(s65.1,s65.2)) n 0 ([],true)=some (rg (upN gr.Q x) n,alB (fun i=>q1 gr B.H y z T p R i&&q2 gr B.H T p R n i&&q4 gr B.H T p R n i) n):=by
 refine zfQ (fun i=>(rg (upN gr.Q x) i,alB (fun i=>q1 gr B.H y z T p R i&&q2 gr B.H T p R n i&&q4 gr B.H T p R n i) i)) rfl fun i hi=>?_
 have w1:IntKind.i64.wrap ((n:Int)+(i:Int))=((n+i:Nat):Int):=zcH (by omega) (by omega)
 have w2:IntKind.i64.wrap (IntKind.i64.wrap (IntKind.i64.wrap (2*(n:Int))+1)+(i:Int))=((2*n+1+i:Nat):Int):=by
  rw[zaj (n:=2*(n:Int)) (by omega) (by omega),zaj (n:=2*(n:Int)+1) (by omega) (by omega)];exact zcH (by omega) (by omega)
 have g0:∀{l:List Int},l.length=n→ix l (i:Int)=some (l.getD i 0):=fun h=>zbp (by omega)
 have gc:∀j,j<3*n+3→ix p.Pi.Commits (j:Int)=some (p.Pi.Commits.getD j 0)∧R9 (p.Pi.Commits.getD j 0):=fun j hj=>⟨zbp (by omega),zcK k (zbU hm.2 (by omega))⟩
 have a1:=zcK k (zbU hp.2 (i:=i) (by omega))
 have a2:=zcK k (zbU hw.2 (i:=i) (by omega))
 have a3:=zcK k (zbU hc.2 (i:=i) (by omega))
 have hb:=zpp k (zhj k) hc.2 i (by omega)
 have m3:=zqK k (zbu k (p.Places.getD i 0) y) a2 (zbu k gr.G (IntKind.i64.wrap (0-z)))
 rw[w1,w2]
 refine zab (zwp k hx (by omega)).1 (zah (by rw[zak];omega) (zab (gc i (by omega)).1 (zab (g0 hp.1) (zab (g0 hw.1) (zab (g0 hr.s1) (zab (g0 hr.s2) (zab (pwI k a1 _) (zab (pwI k (r_G k) _) (zab m3.2.1 (zab (zkj k hh _ _) (zab (zjS k _ (gc i (by omega)).2 m3.1) ?_)))))))))))
 refine zab (gc (n+i) (by omega)).1 (zab (g0 hc.1) (zab hb.1 (zab (g0 hr.s3) (zab (pwI k hb.2 _) (zab (pwI k hh _) (zab (m2I k (zbu k _ _) (zbu k _ _)) (zab (zjS k _ (gc (n+i) (by omega)).2 a3) ?_)))))))
 refine zab (gc (2*n+1+i) (by omega)).1 (zab (g0 hr.kk) (zab (g0 hr.mm) (zab (zkj k hh _ _) (zab (zjS k _ (gc (2*n+1+i) (by omega)).2 a2) (zac ?_)))))
 rw[zg2]
 show Stp.go (_,_)=Stp.go (_,alB _ i&&_)
 unfold q1 q2 q4
 simp only[Bool.and_assoc]
end
section
attribute [local irreducible] chG zdE zcl
def vpL (key:Int) (l out:List Cipher) (p:PolyProof):List Int:=zdE key l out (p.Places++p.Powers)
def vpX (gr:Group) (key:Int) (l out:List Cipher) (p:PolyProof):Int:=chG gr sX (zdE key l out p.Places)
def vpY (gr:Group) (key:Int) (l out:List Cipher) (p:PolyProof):Int:=chG gr sY (vpL key l out p)
def vpZ (gr:Group) (key:Int) (l out:List Cipher) (p:PolyProof):Int:=chG gr sZ (vpL key l out p)
def vpT (gr:Group) (key:Int) (l out:List Cipher) (p:PolyProof):Int:=chG gr sE (vpL key l out p++p.Chain++p.Pi.Commits)
def q3 (gr:Group) (h tg T:Int) (p:PolyProof) (R:Rp) (n:Nat):Bool:=zbV gr [p.Pi.Commits.getD (2*n) 0,zaW gr (zbV gr [p.Chain.getD (n-1) 0,zaW gr (zaW gr gr.G tg) (-1)]) T]==zaW gr h R.g
def qE (gr:Group) (T c base:Int) (ups sIn sOut:List Int) (R:Rp):Bool:=zbV gr [c,zaW gr (zcl gr sIn ups 1) T]==zbV gr [zaW gr base (IntKind.i64.wrap (0-R.f)),zcl gr sOut R.kk 1]
def vpB (gr:Group) (key h:Int) (l out:List Cipher) (p:PolyProof) (R:Rp) (x y z T:Int) (n:Nat):Bool:=
 (((alB (fun i=>q1 gr h y z T p R i&&q2 gr h T p R n i&&q4 gr h T p R n i) n&&q3 gr h (tgN gr.Q x y z n) T p R n)&&qE gr T (p.Pi.Commits.getD (3*n+1) 0) gr.G (rg (upN gr.Q x) n) (sdV l).1 (sdV out).1 R)&&qE gr T (p.Pi.Commits.getD (3*n+2) 0) key (rg (upN gr.Q x) n) (sdV l).2 (sdV out).2 R)
structure VpOk (gr:Group) (key h:Int) (l out:List Cipher) (p:PolyProof) (R:Rp):Prop where
 key:zay gr key=true
 n:1≤l.length∧l.length≤12
 lc:∀c∈l,zbS gr c=true
 oc:∀c∈out,zbS gr c=true
 ol:out.length=l.length
 hh:zay gr h=true
 pl:p.Places.length=l.length∧∀z∈p.Places,zay gr z=true
 pw:p.Powers.length=l.length∧∀z∈p.Powers,zay gr z=true
 ch:p.Chain.length=l.length∧∀z∈p.Chain,zay gr z=true
 cm:p.Pi.Commits.length=3*l.length+3∧∀z∈p.Pi.Commits,zay gr z=true
 cl:p.Pi.Challenges.length=1
 rs:p.Pi.Responses=R.cs
 r:RpOk l.length R
section
variable {gr:Group}{key h:Int}{l out:List Cipher}{p:PolyProof}{R:Rp}
theorem zBC (hk:zay gr key=true) (hn:1≤l.length∧l.length≤12) (lc:∀c∈l,zbS gr c=true) (oc:∀c∈out,zbS gr c=true) (hh:zay gr h=true) (ho:out.length=l.length) (hs:spB gr l.length p=true):∃R,VpOk gr key h l out p R:=by
 simp only[spB,Bool.and_eq_true,decide_eq_true_eq]at hs
 obtain⟨a1,a2,a3,a4,a5,a6,a7,a8,a9,a10,_⟩:=hs
 obtain⟨R,r1,r2⟩:=zCp a6
 exact⟨R,hk,hn,lc,oc,ho,hh,⟨a1,List.all_eq_true.1 a7⟩,⟨a2,List.all_eq_true.1 a8⟩,⟨a3,List.all_eq_true.1 a9⟩,⟨a4,List.all_eq_true.1 a10⟩,a5,r1,r2⟩
theorem zpn (k:OkG gr) (V:VpOk gr key h l out p R):(zdE key l out p.Places).length=1+5*l.length∧(zdE key l out p.Places).all zbH=true:=by
 have h1:=V.pl.1
 have h2:=V.ol
 exact⟨by rw[zlI];omega,zlV k V.key V.lc V.oc (zgA k (List.all_eq_true.2 V.pl.2))⟩
theorem zpg (k:OkG gr) (V:VpOk gr key h l out p R):(vpL key l out p).length=1+6*l.length∧(vpL key l out p).all zbH=true:=by
 have h1:=V.pl.1
 have h2:=V.ol
 have h3:=V.pw.1
 unfold vpL
 exact⟨by rw[zlI,List.length_append];omega,zlV k V.key V.lc V.oc (zgA k (List.all_eq_true.2 (zgJ V.pl.2 V.pw.2)))⟩
theorem zwc (k:OkG gr) (V:VpOk gr key h l out p R):(vpL key l out p++p.Chain++p.Pi.Commits).length=4+10*l.length∧(vpL key l out p++p.Chain++p.Pi.Commits).all zbH=true:=by
 have h1:=zpg k V
 have h2:=V.ch.1
 have h3:=V.cm.1
 refine⟨by rw[List.length_append,List.length_append,h1.1,h2,h3];omega,?_⟩
 rw[List.all_append,List.all_append,h1.2,zgA k (List.all_eq_true.2 V.ch.2),zgA k (List.all_eq_true.2 V.cm.2)];rfl
attribute [local irreducible] rg sdV vc vpX vpY vpZ vpT tgN alB q1 q2 q4
set_option maxHeartbeats 2000000 in
theorem zAS (k:OkG gr) {B:Bases}(V:VpOk gr key B.H l out p R) (hs:spB gr l.length p=true):zbX gr B key l out p=some ((p.Pi.Challenges.getD 0 0==vpT gr key l out p)&&vpB gr key B.H l out p R (vpX gr key l out p) (vpY gr key l out p) (vpZ gr key l out p) (vpT gr key l out p) l.length):=by
 have hp:=k.p
 have hq:=k.q
 have hn:=V.n
 have hol:=V.ol
 have hH:=zcK k V.hh
 have hK:=zcK k V.key
 have lP:=V.pl.1
 have lW:=V.pw.1
 have lH:=V.ch.1
 have lM:=V.cm.1
 have l1:=zpn k V
 have l2:=zpg k V
 have l3:=zwc k V
 have hx:E9 gr.Q (vpX gr key l out p):=by unfold vpX;exact zei k _ _
 have hy:E9 gr.Q (vpY gr key l out p):=by unfold vpY;exact zei k _ _
 have hz:E9 gr.Q (vpZ gr key l out p):=by unfold vpZ;exact zei k _ _
 have c1:=zjQ (key:=key) (l:=l) (out:=out) (m:=p.Places) (by omega) (by omega) (by omega)
 have c2:zaJ gr sX (zdE key l out p.Places)=some (vpX gr key l out p,true):=by unfold vpX;exact(zfM k (by decide) (by omega) l1.2).1
 have c3:zcg key l out (p.Places++p.Powers)=some (vpL key l out p):=zjQ (by omega) (by omega) (by rw[List.length_append];omega)
 have c4:zb9 gr (vpL key l out p)=some (vpY gr key l out p,vpZ gr key l out p,true):=by unfold vpY vpZ;exact zsO k (by omega) l2.2
 have c5:zbk [vpL key l out p,p.Chain,p.Pi.Commits]=some (vpL key l out p++p.Chain++p.Pi.Commits):=by
  have e:[vpL key l out p,p.Chain,p.Pi.Commits].flatten=vpL key l out p++p.Chain++p.Pi.Commits:=by simp
  rw[zln _ (by rw[e,l3.1];omega),e]
 have c6:zaJ gr sE (vpL key l out p++p.Chain++p.Pi.Commits)=some (vpT gr key l out p,true):=by unfold vpT;exact(zfM k (by decide) (by omega) l3.2).1
 have c7:=zxD (B:=B) (y:=vpY gr key l out p) (z:=vpZ gr key l out p) (T:=vpT gr key l out p) k hH hn.2 V.pl V.pw V.ch V.cm V.r hx
 have c8:=zwl (q:=gr.Q) (by omega) (n:=l.length) (by omega) hx hy hz
 have c9:=(ziI (l:=l) (by omega)).1
 have c10:=(ziI (l:=out) (by omega)).1
 have hsl:=zlX k V.lc
 have hso:=zlX k V.oc
 have hll:=zjY l
 have hlo:=zjY out
 have u1:=zhh k (m:=rg (upN gr.Q (vpX gr key l out p)) l.length) hsl.1 (by rw[zak,hll.1];exact Nat.le_refl _)
 have u2:=zhh k (m:=rg (upN gr.Q (vpX gr key l out p)) l.length) hsl.2 (by rw[zak,hll.2];exact Nat.le_refl _)
 have u3:=zhh k (m:=R.kk) hso.1 (by rw[hlo.1,V.r.kk];omega)
 have u4:=zhh k (m:=R.kk) hso.2 (by rw[hlo.2,V.r.kk];omega)
 have w1:IntKind.i64.wrap ((l.length:Int)-1)=((l.length-1:Nat):Int):=zcH (by omega) (by omega)
 have w2:IntKind.i64.wrap (2*(l.length:Int))=((2*l.length:Nat):Int):=zcH (by omega) (by omega)
 have w3:IntKind.i64.wrap (3*(l.length:Int))=((3*l.length:Nat):Int):=zcH (by omega) (by omega)
 have w31:IntKind.i64.wrap (((3*l.length:Nat):Int)+1)=((3*l.length+1:Nat):Int):=zcH (by omega) (by omega)
 have w32:IntKind.i64.wrap (((3*l.length:Nat):Int)+2)=((3*l.length+2:Nat):Int):=zcH (by omega) (by omega)
 have gc:∀j,j<3*l.length+3→ix p.Pi.Commits (j:Int)=some (p.Pi.Commits.getD j 0)∧R9 (p.Pi.Commits.getD j 0):=fun j hj=>⟨zbp (by omega),zcK k (zbU V.cm.2 (by omega))⟩
 have gh:ix p.Chain ((l.length-1:Nat):Int)=some (p.Chain.getD (l.length-1) 0):=zbp (by omega)
 have rh:=zcK k (zbU V.ch.2 (i:=l.length-1) (by omega))
 have rp:=zbu k gr.G (tgN gr.Q (vpX gr key l out p) (vpY gr key l out p) (vpZ gr key l out p) l.length)
 have ov:=zy0 k (b:=p.Chain.getD (l.length-1) 0) (x:=zaW gr gr.G (tgN gr.Q (vpX gr key l out p) (vpY gr key l out p) (vpZ gr key l out p) l.length)) rh.1 rh.2 rp.1 rp.2
 have ho:((out.length:Int) !=(l.length:Int))=false:=by rw[hol];simp
 have hc0:0<p.Pi.Challenges.length:=by rw[V.cl];omega
 unfold zbX
 refine zaB (zaf (ψ:=(· =false)) (za9 ho (zab (zwv k (by omega) p) (zac (by rw[hs];rfl)))) ?_)
 rintro _ rfl
 refine za9 rfl (zab c1 (zab c2 (zab (zti (by omega)) (zah (by omega) (zab c3 (zab c4 (zab c5 (zab c6 (zaf (ψ:=(· =(p.Pi.Challenges.getD 0 0 !=vpT gr key l out p))) (za9 rfl (za9 rfl (za9 rfl (zab (zbp (i:=0) hc0) (zac rfl))))) ?_)))))))))
 rintro _ rfl
 refine zal (fun g=>zac ?_) fun g=>?_
 ·have:(p.Pi.Challenges.getD 0 0==vpT gr key l out p)=false:=by simpa[bne]using g
  rw[this];rfl
 have g2:(p.Pi.Challenges.getD 0 0==vpT gr key l out p)=true:=by simpa[bne]using g
 rw[g2,Bool.true_and,V.rs]
 unfold Rp.cs
 refine zab (ze4 V.r.s1) (zab (ze4 V.r.s2) (zab (ze4 V.r.s3) (zab (znL _ _) (zab (ze4 V.r.kk) (zab (ze4 V.r.mm) (zab (znL _ _) ?_))))))
 dsimp only
 refine zah (by simp;omega) (zab rfl (zab c7 ?_))
 rw[w1,w2,w3,w31,w32]
 refine zab (gc (2*l.length) (by omega)).1 (zab gh (zab c8 (zab (pwI k (r_G k) _) (zab ov (zab (pwI k hH _) (zab (zjS k _ (gc (2*l.length) (by omega)).2 (ziY k rh (zbu k _ _))) (zab c9 (zab c10 ?_))))))))
 refine zab (gc (3*l.length+1) (by omega)).1 (zab u1 (zab (pwI k (r_G k) _) (zab u3 (zab (m2I k (zbu k _ _) (zf1 k _ _)) (zab (zjS k _ (gc (3*l.length+1) (by omega)).2 (zf1 k _ _)) ?_)))))
 exact zab (gc (3*l.length+2) (by omega)).1 (zab u2 (zab (pwI k hK _) (zab u4 (zab (m2I k (zbu k _ _) (zf1 k _ _)) (zab (zjS k _ (gc (3*l.length+2) (by omega)).2 (zf1 k _ _)) (zac rfl))))))
end
end
theorem zlH {A X Y:List Int}{a i:Nat}(ha:A.length=a) (hi:i<X.length):ix (A++(X++Y)) ((a+i:Nat):Int)=some (X.getD i 0):=by
 refine zsF ?_
 rw[List.getElem?_append_right (by omega),ha,Nat.add_sub_cancel_left,List.getElem?_append_left hi,List.getElem?_eq_getElem hi,zeb hi]
theorem zpq {n:Nat}{R:Rp}(r:RpOk n R):(∀i,i<n→ix R.cs (i:Int)=some (R.s1.getD i 0)∧ix R.cs ((n+i:Nat):Int)=some (R.s2.getD i 0)∧ix R.cs ((2*n+i:Nat):Int)=some (R.s3.getD i 0)∧ix R.cs ((4*n+1+i:Nat):Int)=some (R.mm.getD i 0))∧ix R.cs ((3*n:Nat):Int)=some R.g∧ix R.cs ((5*n+1:Nat):Int)=some R.f∧(R.cs.take (4*n+1)).drop (3*n+1)=R.kk:=by
 have h1:=r.s1
 have h2:=r.s2
 have h3:=r.s3
 have h4:=r.kk
 have h5:=r.mm
 refine⟨fun i hi=>⟨?_,?_,?_,?_⟩,?_,?_,?_⟩
 ·have:=zlH (A:=[]) (X:=R.s1) (Y:=R.s2++(R.s3++(R.g::(R.kk++(R.mm++[R.f]))))) (a:=0) (i:=i) rfl (by omega)
  rwa [Nat.zero_add]at this
 ·exact zlH (A:=R.s1) (X:=R.s2) h1 (by omega)
 ·have:=zlH (A:=R.s1++R.s2) (X:=R.s3) (Y:=R.g::(R.kk++(R.mm++[R.f]))) (a:=2*n) (i:=i) (by rw[List.length_append];omega) (by omega)
  rw[List.append_assoc]at this;exact this
 ·have:=zlH (A:=R.s1++(R.s2++(R.s3++(R.g::R.kk)))) (X:=R.mm) (Y:=[R.f]) (a:=4*n+1) (i:=i) (by simp;omega) (by omega)
  have e:R.s1++(R.s2++(R.s3++(R.g::R.kk)))++(R.mm++[R.f])=R.cs:=by simp[Rp.cs]
  rwa [e]at this
 ·have:=zlH (A:=R.s1++(R.s2++R.s3)) (X:=[R.g]) (Y:=R.kk++(R.mm++[R.f])) (a:=3*n) (i:=0) (by simp;omega) (by simp)
  have e:R.s1++(R.s2++R.s3)++([R.g]++(R.kk++(R.mm++[R.f])))=R.cs:=by simp[Rp.cs]
  rw[e]at this;exact this
 ·have:=zlH (A:=R.s1++(R.s2++(R.s3++(R.g::(R.kk++R.mm))))) (X:=[R.f]) (Y:=[]) (a:=5*n+1) (i:=0) (by simp;omega) (by simp)
  have e:R.s1++(R.s2++(R.s3++(R.g::(R.kk++R.mm))))++([R.f]++[])=R.cs:=by simp[Rp.cs]
  rw[e]at this;exact this
 exact ziy (A:=R.s1++(R.s2++(R.s3++[R.g]))) (R:=R.mm++[R.f]) (by simp[Rp.cs]) (by simp;omega) (by omega)
def l1F (gr:Group) (y z:Int) (p:PolyProof) (i:Nat):Int:=zbV gr [zaW gr (p.Places.getD i 0) y,p.Powers.getD i 0,zaW gr gr.G (IntKind.i64.wrap (0-z))]
def r1F (gr:Group) (h:Int) (R:Rp) (i:Nat):Int:=vc gr h (R.s1.getD i 0) (R.s2.getD i 0)
def r2F (gr:Group) (h:Int) (p:PolyProof) (R:Rp) (i:Nat):Int:=zbV gr [zaW gr (bef gr.G p.Chain i) (R.s1.getD i 0),zaW gr h (R.s3.getD i 0)]
def r4F (gr:Group) (h:Int) (R:Rp) (i:Nat):Int:=vc gr h (R.kk.getD i 0) (R.mm.getD i 0)
section
variable {gr:Group}{p:PolyProof}{R:Rp}{n:Nat}{h:Int}
theorem zw3 (k:OkG gr) (hh:R9 h) (hn:n≤12) (hp:p.Places.length=n∧∀z∈p.Places,zay gr z=true) (hw:p.Powers.length=n∧∀z∈p.Powers,zay gr z=true) (hr:RpOk n R) {y z:Int}:zbo (σ:=(List Int)×List Int×Int) (β:=(List Int)×List Int) (fun s18=>
 if decide (s18.2.2<(n:Int))=true then(
 (ix p.Places s18.2.2).bind fun x24=>
 (ix p.Powers s18.2.2).bind fun x25=>
 (zat gr x24 y).bind fun z26=>
 (zat gr gr.G (IntKind.i64.wrap (0-z))).bind fun z27=>
 (za1 gr [z26,x25,z27]).bind fun z28=>
 gd ((s18.1.length+1)*8≤140737488355328∧s18.1.length+1≤4611686018427387904)<|
 (ix R.cs s18.2.2).bind fun x29=>
 (ix R.cs (IntKind.i64.wrap ((n:Int)+s18.2.2))).bind fun x30=>
 (zcz gr h x29 x30).bind fun z31=>
 gd ((s18.2.1.length+1)*8≤140737488355328∧s18.2.1.length+1≤4611686018427387904)<|
 some (.go (s18.1++[z28],s18.2.1++[z31],IntKind.i64.wrap (s18.2.2+1))))else(
 some (.out (s18.1,s18.2.1)))) ([],[],0)=some (rg (l1F gr y z p) n,rg (r1F gr h R) n):=by
 refine zaB (zc3 n (fun i s=>s=(rg (l1F gr y z p) i,rg (r1F gr h R) i,(i:Int))∧i≤n) ⟨rfl,by omega⟩ ?_ ?_)
 ·rintro i s hi ⟨rfl,_⟩
  have g0:∀{l:List Int},l.length=n→ix l (i:Int)=some (l.getD i 0):=fun h=>zbp (by omega)
  have a1:=zcK k (zbU hp.2 (i:=i) (by omega))
  have a2:=zcK k (zbU hw.2 (i:=i) (by omega))
  have m3:=zqK k (zbu k (p.Places.getD i 0) y) a2 (zbu k gr.G (IntKind.i64.wrap (0-z)))
  have rx:=(zpq hr).1 i hi
  have w1:IntKind.i64.wrap ((n:Int)+(i:Int))=((n+i:Nat):Int):=zcH (by omega) (by omega)
  refine zgu (by simp;omega) ?_
  dsimp only
  rw[w1]
  refine zab (g0 hp.1) (zab (g0 hw.1) (zab (pwS k a1 _) (zab (pwS k (r_G k) _) (zab m3.2.2 (zah (by rw[zak];omega) (zab rx.1 (zab rx.2.1 (zab (zlO k hh _ _) (zah (by rw[zak];omega) (zac ⟨?_,by omega⟩))))))))))
  rw[zaj (n:=(i:Int)+1) (by omega) (by omega),zg2,zg2];rfl
 rintro s ⟨rfl,_⟩
 exact za9 (by simp) (zac rfl)
theorem zwW (k:OkG gr) (hh:R9 h) (hn:n≤12) (hc:p.Chain.length=n∧∀z∈p.Chain,zay gr z=true) (hr:RpOk n R) {A D:List Int}(hA:A.length≤1000) (hD:D.length≤1000):zbo (σ:=(List Int)×List Int×Int×Int) (β:=(List Int)×List Int) (fun s37=>
 if decide (s37.2.2.2<(n:Int))=true then(
 (ix p.Chain s37.2.2.2).bind fun x43=>
 gd ((s37.1.length+1)*8≤140737488355328∧s37.1.length+1≤4611686018427387904)<|
 (ix R.cs s37.2.2.2).bind fun x44=>
 (ix R.cs (IntKind.i64.wrap ((IntKind.i64.wrap (2*(n:Int)))+s37.2.2.2))).bind fun x45=>
 (zat gr s37.2.2.1 x44).bind fun z46=>
 (zat gr h x45).bind fun z47=>
 (za1 gr [z46,z47]).bind fun z48=>
 gd ((s37.2.1.length+1)*8≤140737488355328∧s37.2.1.length+1≤4611686018427387904)<|
 some (.go (s37.1++[x43],s37.2.1++[z48],x43,IntKind.i64.wrap (s37.2.2.2+1))))else(
 some (.out (s37.1,s37.2.1)))) (A,D,gr.G,0)=some (A++rg (fun i=>p.Chain.getD i 0) n,D++rg (r2F gr h p R) n):=by
 refine zaB (zc3 n (fun i s=>s=(A++rg (fun i=>p.Chain.getD i 0) i,D++rg (r2F gr h p R) i,bef gr.G p.Chain i,(i:Int))∧i≤n) ⟨by rw[zjK,zjK,List.append_nil,List.append_nil];rfl,by omega⟩ ?_ ?_)
 ·rintro i s hi ⟨rfl,_⟩
  have hb:=zpp k (zhj k) hc.2 i (by omega)
  have rx:=(zpq hr).1 i hi
  have w1:IntKind.i64.wrap (IntKind.i64.wrap (2*(n:Int))+(i:Int))=((2*n+i:Nat):Int):=by
   rw[zaj (n:=2*(n:Int)) (by omega) (by omega)];exact zcH (by omega) (by omega)
  refine zgu (by simp;omega) ?_
  dsimp only
  rw[w1]
  refine zab (zbp (by omega)) (zah (by rw[List.length_append,zak];omega) (zab rx.1 (zab rx.2.2.1 (zab (pwS k hb.2 _) (zab (pwS k hh _) (zab (m2S k (zbu k _ _) (zbu k _ _)) (zah (by rw[List.length_append,zak];omega) (zac ⟨?_,by omega⟩))))))))
  have e:p.Chain.getD i 0=bef gr.G p.Chain (i+1):=by unfold bef;simp
  rw[zaj (n:=(i:Int)+1) (by omega) (by omega),zh8,zh8,←e];rfl
 rintro s ⟨rfl,_⟩
 exact za9 (by simp) (zac rfl)
theorem zxa (k:OkG gr) (hh:R9 h) (hn:n≤12) (hw:p.Powers.length=n) (hr:RpOk n R) {A D:List Int}(hA:A.length≤1000) (hD:D.length≤1000):zbo (σ:=(List Int)×List Int×Int) (β:=(List Int)×List Int) (fun s60=>
 if decide (s60.2.2<(n:Int))=true then(
 (ix p.Powers s60.2.2).bind fun x66=>
 gd ((s60.1.length+1)*8≤140737488355328∧s60.1.length+1≤4611686018427387904)<|
 (ix R.kk s60.2.2).bind fun x67=>
 (ix R.cs (IntKind.i64.wrap ((IntKind.i64.wrap ((IntKind.i64.wrap (4*(n:Int)))+1))+s60.2.2))).bind fun x68=>
 (zcz gr h x67 x68).bind fun z69=>
 gd ((s60.2.1.length+1)*8≤140737488355328∧s60.2.1.length+1≤4611686018427387904)<|
 some (.go (s60.1++[x66],s60.2.1++[z69],IntKind.i64.wrap (s60.2.2+1))))else(
 some (.out (s60.1,s60.2.1)))) (A,D,0)=some (A++rg (fun i=>p.Powers.getD i 0) n,D++rg (r4F gr h R) n):=by
 refine zaB (zc3 n (fun i s=>s=(A++rg (fun i=>p.Powers.getD i 0) i,D++rg (r4F gr h R) i,(i:Int))∧i≤n) ⟨by rw[zjK,zjK,List.append_nil,List.append_nil];rfl,by omega⟩ ?_ ?_)
 ·rintro i s hi ⟨rfl,_⟩
  have rx:=(zpq hr).1 i hi
  have w1:IntKind.i64.wrap (IntKind.i64.wrap (IntKind.i64.wrap (4*(n:Int))+1)+(i:Int))=((4*n+1+i:Nat):Int):=by
   rw[zaj (n:=4*(n:Int)) (by omega) (by omega),zaj (n:=4*(n:Int)+1) (by omega) (by omega)];exact zcH (by omega) (by omega)
  refine zgu (by simp;omega) ?_
  dsimp only
  rw[w1]
  refine zab (zbp (by omega)) (zah (by rw[List.length_append,zak];omega) (zab (zbp (by rw[hr.kk];exact hi)) (zab rx.2.2.2 (zab (zlO k hh _ _) (zah (by rw[List.length_append,zak];omega) (zac ⟨?_,by omega⟩))))))
  rw[zaj (n:=(i:Int)+1) (by omega) (by omega),zh8,zh8];rfl
 rintro s ⟨rfl,_⟩
 exact za9 (by simp) (zac rfl)
end
theorem znE (f:Nat→Bool):∀n,alB f n=(List.range n).all f
 |0=>rfl
 |n+1=>by
  unfold alB
  rw[znE f n,List.range_succ,List.all_append]
  simp
theorem zj7 (f:Nat→Bool) (a b:Nat):(List.range (a+b)).all f=((List.range a).all f&&(List.range b).all fun i=>f (a+i)):=by
 rw[List.range_add,List.all_append,List.all_map];rfl
theorem zwm (f g h:Nat→Bool):∀n,((List.range n).all fun i=>f i&&g i&&h i)=((List.range n).all f&&(List.range n).all g&&(List.range n).all h)
 |0=>rfl
 |n+1=>by
  simp only[List.range_succ,List.all_append,List.all_cons,List.all_nil,Bool.and_true]
  rw[zwm f g h n]
  cases (List.range n).all f<;>cases (List.range n).all g<;>cases (List.range n).all h<;>cases f n<;>cases g n<;>cases h n<;>rfl
theorem zkW {f g:Nat→Bool}:∀{n:Nat},(∀i,i<n→f i=g i)→(List.range n).all f=(List.range n).all g
 |0,_=>rfl
 |n+1,h=>by
  simp only[List.range_succ,List.all_append,List.all_cons,List.all_nil,Bool.and_true]
  rw[zkW fun i hi=>h i (by omega),h n (by omega)]
theorem zlT {A B:List Int}{i:Nat}(h:i<A.length):(A++B).getD i 0=A.getD i 0:=by
 rw[List.getD_eq_getElem?_getD,List.getD_eq_getElem?_getD,List.getElem?_append_left h]
theorem zjp {A B:List Int}{a i:Nat}(h:A.length=a):(A++B).getD (a+i) 0=B.getD i 0:=by
 rw[List.getD_eq_getElem?_getD,List.getD_eq_getElem?_getD,List.getElem?_append_right (by omega),h,Nat.add_sub_cancel_left]
theorem zuY (E:Nat→Int→Int→Bool) {n:Nat}{a1 a2 a4 b1 b2 b4:List Int}{a3 a5 a6 b3 b5 b6:Int}(h1:a1.length=n) (h2:a2.length=n) (h4:a4.length=n) (g1:b1.length=n) (g2:b2.length=n) (g4:b4.length=n):
 ((List.range (3*n+3)).all fun i=>E i ((a1++(a2++(a3::(a4++[a5,a6])))).getD i 0) ((b1++(b2++(b3::(b4++[b5,b6])))).getD i 0))=
 ((((alB (fun i=>E i (a1.getD i 0) (b1.getD i 0)&&E (n+i) (a2.getD i 0) (b2.getD i 0)&&E (2*n+1+i) (a4.getD i 0) (b4.getD i 0)) n&&E (2*n) a3 b3)&&E (3*n+1) a5 b5)&&E (3*n+2) a6 b6)):=by
 have e:3*n+3=n+(n+(1+(n+(1+1)))):=by omega
 rw[znE,zwm,e,zj7,zj7,zj7,zj7,zj7]
 have p1:=zkW (n:=n) (f:=fun i=>E i ((a1++(a2++(a3::(a4++[a5,a6])))).getD i 0) ((b1++(b2++(b3::(b4++[b5,b6])))).getD i 0)) (g:=fun i=>E i (a1.getD i 0) (b1.getD i 0)) fun i hi=>by
  simp only[zlT (A:=a1) (show i<a1.length by omega),zlT (A:=b1) (show i<b1.length by omega)]
 have p2:=zkW (n:=n) (f:=fun i=>E (n+i) ((a1++(a2++(a3::(a4++[a5,a6])))).getD (n+i) 0) ((b1++(b2++(b3::(b4++[b5,b6])))).getD (n+i) 0)) (g:=fun i=>E (n+i) (a2.getD i 0) (b2.getD i 0)) fun i hi=>by
  simp only[zjp h1,zjp g1,zlT (A:=a2) (show i<a2.length by omega),zlT (A:=b2) (show i<b2.length by omega)]
 have s3:∀j,(a1++(a2++(a3::(a4++[a5,a6])))).getD (n+(n+j)) 0=(a3::(a4++[a5,a6])).getD j 0:=fun j=>by rw[zjp h1,zjp h2]
 have t3:∀j,(b1++(b2++(b3::(b4++[b5,b6])))).getD (n+(n+j)) 0=(b3::(b4++[b5,b6])).getD j 0:=fun j=>by rw[zjp g1,zjp g2]
 have s4:∀j,(a3::(a4++[a5,a6])).getD (1+j) 0=(a4++[a5,a6]).getD j 0:=fun j=>by rw[Nat.add_comm];rfl
 have t4:∀j,(b3::(b4++[b5,b6])).getD (1+j) 0=(b4++[b5,b6]).getD j 0:=fun j=>by rw[Nat.add_comm];rfl
 have p4:=zkW (n:=n) (f:=fun i=>E (n+(n+(1+i))) ((a1++(a2++(a3::(a4++[a5,a6])))).getD (n+(n+(1+i))) 0) ((b1++(b2++(b3::(b4++[b5,b6])))).getD (n+(n+(1+i))) 0)) (g:=fun i=>E (2*n+1+i) (a4.getD i 0) (b4.getD i 0)) fun i hi=>by
  simp only[s3,t3,s4,t4,zlT (A:=a4) (show i<a4.length by omega),zlT (A:=b4) (show i<b4.length by omega)]
  congr 1;omega
 rw[p1,p2,p4]
 have r1:List.range 1=[0]:=rfl
 simp only[r1,List.all_cons,List.all_nil,Bool.and_true,s3,t3,s4,t4,zjp h4,zjp g4]
 have i1:n+(n+0)=2*n:=by omega
 have i2:n+(n+(1+(n+0)))=3*n+1:=by omega
 have i3:n+(n+(1+(n+(1+0))))=3*n+2:=by omega
 simp only[i1,i2,i3]
 show(_&&(_&&(E (2*n) a3 b3&&(_&&(E (3*n+1) a5 b5&&E (3*n+2) a6 b6)))))=_
 generalize (List.range n).all (fun i=>E i (a1.getD i 0) (b1.getD i 0))=x1
 generalize (List.range n).all (fun i=>E (n+i) (a2.getD i 0) (b2.getD i 0))=x2
 generalize (List.range n).all (fun i=>E (2*n+1+i) (a4.getD i 0) (b4.getD i 0))=x4
 cases x1<;>cases x2<;>cases x4<;>simp[Bool.and_assoc]
def eqT (gr:Group) (T:Int) (c:List Int) (i:Nat) (a b:Int):Bool:=zbV gr [c.getD i 0,zaW gr a T]==b
theorem zvN {gr:Group}(k:OkG gr) {T:Int}{c L Q:List Int}(hc:∀z∈c,zay gr z=true) (hL:L.length=c.length∧∀z∈L,R9 z) (hQ:Q.length=c.length):Rn (zap (σ:=(List Int)×List Int) (β:=Unit ⊕ Bool) (fun i105 s104=>
 (ix c i105).bind fun x111=>
 (ix s104.1 i105).bind fun x112=>
 (ix s104.2 i105).bind fun x113=>
 (zat gr x112 T).bind fun z114=>
 (za1 gr [x111,z114]).bind fun z115=>
 if(z115 !=x113)=true then(
 some (.out (.inr false)))else(
 some (.go (s104.1,s104.2)))) (fun s104=>.inl ()) c.length 0 (L,Q)) (fun v=>(v=.inl ()∧(List.range c.length).all (fun i=>eqT gr T c i (L.getD i 0) (Q.getD i 0))=true)∨(v=.inr false∧(List.range c.length).all (fun i=>eqT gr T c i (L.getD i 0) (Q.getD i 0))=false)):=by
 refine zci (fun i s=>s=(L,Q)∧i≤c.length∧(List.range i).all (fun i=>eqT gr T c i (L.getD i 0) (Q.getD i 0))=true) ⟨rfl,by omega,rfl⟩ ?_ ?_
 ·rintro i s hi ⟨rfl,_,hI⟩
  have hr:=zbU hL.2 (i:=i) (by omega)
  have hcr:=zcK k (zbU hc hi)
  refine zab (zbp hi) (zab (zbp (by dsimp only;omega)) (zab (zbp (by dsimp only;omega)) (zab (pwS k hr _) (zab (m2S k hcr (zbu k _ _)) (zal (fun g=>zac (.inr ⟨rfl,?_⟩)) fun g=>zac ⟨rfl,by omega,?_⟩)))))
  ·rw[List.all_eq_false]
   exact⟨i,List.mem_range.2 hi,by unfold eqT;simpa[bne]using g⟩
  rw[List.range_succ,List.all_append,hI]
  have:eqT gr T c i (L.getD i 0) (Q.getD i 0)=true:=by unfold eqT;simpa[bne]using g
  rw[List.all_cons,List.all_nil,this];rfl
 rintro s ⟨rfl,_,hI⟩
 exact .inl ⟨rfl,hI⟩
section
attribute [local irreducible] chG zdE zcl
section
variable {gr:Group}{key h:Int}{l out:List Cipher}{p:PolyProof}{R:Rp}
theorem zAb (k:OkG gr) (V:VpOk gr key h l out p R):zdA gr key l out p.Places p.Powers=some (vpY gr key l out p,vpZ gr key l out p):=by
 have hn:=V.n
 have hol:=V.ol
 have lP:=V.pl.1
 have lW:=V.pw.1
 have a1:=zpn k V
 have a2:=zpg k V
 unfold zdA
 refine zaB (zab (zj6 (by omega) (by omega) (by omega)) (zah (by omega) ?_))
 rw[zlW]
 exact zab (zfM k (s:=sY) (by decide) (by have:=a2.1;unfold vpL at this;omega) a2.2).2 (zab (zfM k (s:=sZ) (by decide) (by have:=a2.1;unfold vpL at this;omega) a2.2).2 (zac rfl))
theorem zzV (k:OkG gr) (V:VpOk gr key h l out p R):zeH gr key l out p=some (vpT gr key l out p):=by
 have hn:=V.n
 have hol:=V.ol
 have lP:=V.pl.1
 have lW:=V.pw.1
 have lH:=V.ch.1
 have lM:=V.cm.1
 have a1:=zpn k V
 have a2:=zpg k V
 have a3:=zwc k V
 have a2':(zdE key l out (p.Places++p.Powers)).length=1+6*l.length:=a2.1
 unfold zeH
 refine zaB (zab (zj6 (by omega) (by omega) (by omega)) (zah (by omega) ?_))
 rw[zlW]
 exact zah (by omega) (zah (by rw[List.length_append];omega) (zab (zfM k (s:=sE) (by decide) (by have:=a3.1;unfold vpL at this;omega) a3.2).2 (zac rfl)))
end
end
section
attribute [local irreducible] chG zdE zcl
section
variable {gr:Group}{key h:Int}{l out:List Cipher}{p:PolyProof}{R:Rp}
attribute [local irreducible] rg sdV vc vpX vpY vpZ vpT tgN alB
set_option maxHeartbeats 2000000 in
theorem zCN (k:OkG gr) (V:VpOk gr key h l out p R) (hs:spB gr l.length p=true):zef gr key h l out p=some ((p.Pi.Challenges.getD 0 0==vpT gr key l out p)&&vpB gr key h l out p R (vpX gr key l out p) (vpY gr key l out p) (vpZ gr key l out p) (vpT gr key l out p) l.length):=by
 have hp:=k.p
 have hq:=k.q
 have hn:=V.n
 have hol:=V.ol
 have hH:=zcK k V.hh
 have hK:=zcK k V.key
 have lP:=V.pl.1
 have lW:=V.pw.1
 have lH:=V.ch.1
 have lM:=V.cm.1
 have l1:=zpn k V
 have hx:E9 gr.Q (vpX gr key l out p):=by unfold vpX;exact zei k _ _
 have hy:E9 gr.Q (vpY gr key l out p):=by unfold vpY;exact zei k _ _
 have hz:E9 gr.Q (vpZ gr key l out p):=by unfold vpZ;exact zei k _ _
 have c1:=zj6 (key:=key) (l:=l) (out:=out) (m:=p.Places) (by omega) (by omega) (by omega)
 have c2:zbD gr sX (zdE key l out p.Places)=some (vpX gr key l out p):=by unfold vpX;exact(zfM k (by decide) (by omega) l1.2).2
 have c3:=zAb k V
 have c4:=zzV k V
 have c5:=zw3 (y:=vpY gr key l out p) (z:=vpZ gr key l out p) k hH hn.2 V.pl V.pw V.r
 have c6:=fun A D hA hD=>zwW (A:=A) (D:=D) k hH hn.2 V.ch V.r hA hD
 have c7:=fun A D hA hD=>zxa (A:=A) (D:=D) k hH hn.2 V.pw.1 V.r hA hD
 have c8:=zCP (q:=gr.Q) (by omega) (n:=l.length) (by omega) hx hy hz
 have tb:=zpk (show 1<gr.Q by omega) (vpX gr key l out p) (vpY gr key l out p) (vpZ gr key l out p) l.length
 have c9:=(ziI (l:=l) (by omega)).2
 have c10:=(ziI (l:=out) (by omega)).2
 have c11:=zCG k (n:=l.length) (by omega) hx
 have hsl:=zlX k V.lc
 have hso:=zlX k V.oc
 have hll:=zjY l
 have hlo:=zjY out
 have u1:=ziF k (m:=rg (upN gr.Q (vpX gr key l out p)) l.length) hsl.1 (by rw[zak,hll.1];exact Nat.le_refl _)
 have u2:=ziF k (m:=rg (upN gr.Q (vpX gr key l out p)) l.length) hsl.2 (by rw[zak,hll.2];exact Nat.le_refl _)
 have u3:=ziF k (m:=R.kk) hso.1 (by rw[hlo.1,V.r.kk];omega)
 have u4:=ziF k (m:=R.kk) hso.2 (by rw[hlo.2,V.r.kk];omega)
 obtain⟨_,r2,r3,r4⟩:=zpq V.r
 have w1:IntKind.i64.wrap ((l.length:Int)-1)=((l.length-1:Nat):Int):=zcH (by omega) (by omega)
 have w3:IntKind.i64.wrap (3*(l.length:Int))=((3*l.length:Nat):Int):=zcH (by omega) (by omega)
 have w4:IntKind.i64.wrap (4*(l.length:Int))=((4*l.length:Nat):Int):=zcH (by omega) (by omega)
 have w5:IntKind.i64.wrap (5*(l.length:Int))=((5*l.length:Nat):Int):=zcH (by omega) (by omega)
 have w31:IntKind.i64.wrap (((3*l.length:Nat):Int)+1)=((3*l.length+1:Nat):Int):=zcH (by omega) (by omega)
 have w41:IntKind.i64.wrap (((4*l.length:Nat):Int)+1)=((4*l.length+1:Nat):Int):=zcH (by omega) (by omega)
 have w51:IntKind.i64.wrap (((5*l.length:Nat):Int)+1)=((5*l.length+1:Nat):Int):=zcH (by omega) (by omega)
 have wt:IntKind.i64.wrap (0-tgN gr.Q (vpX gr key l out p) (vpY gr key l out p) (vpZ gr key l out p) l.length)=0-tgN gr.Q (vpX gr key l out p) (vpY gr key l out p) (vpZ gr key l out p) l.length:=zaj (by have:=tb.1;have:=tb.2;omega) (by have:=tb.1;omega)
 have gh:ix p.Chain ((l.length-1:Nat):Int)=some (p.Chain.getD (l.length-1) 0):=zbp (by omega)
 have rh:=zcK k (zbU V.ch.2 (i:=l.length-1) (by omega))
 have ho:((out.length:Int) !=(l.length:Int))=false:=by rw[hol];simp
 have hc0:0<p.Pi.Challenges.length:=by rw[V.cl];omega
 have hRl:R.cs.length=5*l.length+2:=by have:=V.r.s1;have:=V.r.s2;have:=V.r.s3;have:=V.r.kk;have:=V.r.mm;simp[Rp.cs];omega
 have hpn:=zxt k (zhj k) tb.1
 have c7:∀A D:List Int,A.length≤1000→D.length≤1000→_:=c7
 simp only[w4,w41]at c7
 unfold zef
 refine zaB (zaf (ψ:=(· =(p.Pi.Challenges.getD 0 0 !=vpT gr key l out p))) (za9 ho (zab (zwj k (by omega) p) (za9 (by rw[hs];rfl) (zab (zbp (i:=0) hc0) (zab c4 (zac rfl)))))) ?_)
 rintro _ rfl
 refine zal (fun g=>zac ?_) fun g=>?_
 ·have:(p.Pi.Challenges.getD 0 0==vpT gr key l out p)=false:=by simpa[bne]using g
  rw[this];rfl
 have g2:(p.Pi.Challenges.getD 0 0==vpT gr key l out p)=true:=by simpa[bne]using g
 have g3:p.Pi.Challenges.getD 0 0=vpT gr key l out p:=eq_of_beq g2
 rw[g2,Bool.true_and,V.rs]
 refine zab (zbp (i:=0) hc0) ?_
 rw[g3,w1,w3,w4,w5,w31,w41,w51,Int.toNat_natCast,Int.toNat_natCast,r4]
 refine zab c1 (zab c2 (zab c3 (zah (by omega) (zah (by omega) (zah (by omega) (zab r3 (zab c5 (zab (c6 _ _ (by rw[zak];omega) (by rw[zak];omega)) (zab gh (zab c8 ?_))))))))))
 rw[wt]
 refine zab (pwS k (r_G k) _) (zab (m2S k rh (zbu k _ _)) (zah ?_ (zab r2 (zab (pwS k hH _) (zah ?_ (zab (c7 _ _ ?_ ?_) (zab c9 (zab c10 ?_))))))))
 ·simp only[List.length_append,zak];omega
 ·simp only[List.length_append,zak];omega
 ·simp only[List.length_append,zak,List.length_cons,List.length_nil];omega
 ·simp only[List.length_append,zak,List.length_cons,List.length_nil];omega
 refine zab c11 (zab u1 (zab c11 (zab u2 (zah ?_ (zab (pwS k (r_G k) _) (zab u3 (zab (m2S k (zbu k _ _) (zf1 k _ _)) (zab (pwS k hK _) (zab u4 (zab (m2S k (zbu k _ _) (zf1 k _ _)) (zah ?_ ?_)))))))))))
 ·simp only[List.length_append,zak,List.length_cons,List.length_nil];omega
 ·simp only[List.length_append,zak,List.length_cons,List.length_nil];omega
 dsimp only
 refine zaf (zvN k V.cm.2 ⟨?_,?_⟩ ?_) fun v hv=>?_
 ·simp only[List.length_append,zak,List.length_cons,List.length_nil];omega
 ·refine zgJ (zgJ (zgJ (zgJ (zgn fun i hi=>?_) (zgn fun i hi=>?_)) ?_) (zgn fun i hi=>?_)) ?_
  ·exact(zqK k (zbu k _ _) (zcK k (zbU V.pw.2 (by omega))) (zbu k _ _)).1
  ·exact zcK k (zbU V.ch.2 (by omega))
  ·intro x hx;rw[List.mem_singleton]at hx;rw[hx];exact ziY k rh (zbu k _ _)
  ·exact zcK k (zbU V.pw.2 (by omega))
  intro x hx
  simp only[List.mem_cons,List.not_mem_nil,or_false]at hx
  rcases hx with rfl|rfl<;>exact zf1 k _ _
 ·simp only[List.length_append,zak,List.length_cons,List.length_nil];omega
 have hkey:=zuY (eqT gr (vpT gr key l out p) p.Pi.Commits) (n:=l.length) (a1:=rg (l1F gr (vpY gr key l out p) (vpZ gr key l out p) p) l.length) (a2:=rg (fun i=>p.Chain.getD i 0) l.length) (a4:=rg (fun i=>p.Powers.getD i 0) l.length) (b1:=rg (r1F gr h R) l.length) (b2:=rg (r2F gr h p R) l.length) (b4:=rg (r4F gr h R) l.length)
  (a3:=zbV gr [p.Chain.getD (l.length-1) 0,zaW gr gr.G (0-tgN gr.Q (vpX gr key l out p) (vpY gr key l out p) (vpZ gr key l out p) l.length)]) (b3:=zaW gr h R.g) (a5:=zcl gr (sdV l).1 (rg (upN gr.Q (vpX gr key l out p)) l.length) 1) (a6:=zcl gr (sdV l).2 (rg (upN gr.Q (vpX gr key l out p)) l.length) 1)
  (b5:=zbV gr [zaW gr gr.G (IntKind.i64.wrap (0-R.f)),zcl gr (sdV out).1 R.kk 1]) (b6:=zbV gr [zaW gr key (IntKind.i64.wrap (0-R.f)),zcl gr (sdV out).2 R.kk 1]) (zak _ _) (zak _ _) (zak _ _) (zak _ _) (zak _ _) (zak _ _)
 have hB:vpB gr key h l out p R (vpX gr key l out p) (vpY gr key l out p) (vpZ gr key l out p) (vpT gr key l out p) l.length=(List.range p.Pi.Commits.length).all (fun i=>eqT gr (vpT gr key l out p) p.Pi.Commits i ((rg (l1F gr (vpY gr key l out p) (vpZ gr key l out p) p) l.length++rg (fun i=>p.Chain.getD i 0) l.length++[zbV gr [p.Chain.getD (l.length-1) 0,zaW gr gr.G (0-tgN gr.Q (vpX gr key l out p) (vpY gr key l out p) (vpZ gr key l out p) l.length)]]++rg (fun i=>p.Powers.getD i 0) l.length++[zcl gr (sdV l).1 (rg (upN gr.Q (vpX gr key l out p)) l.length) 1,zcl gr (sdV l).2 (rg (upN gr.Q (vpX gr key l out p)) l.length) 1]).getD i 0) ((rg (r1F gr h R) l.length++rg (r2F gr h p R) l.length++[zaW gr h R.g]++rg (r4F gr h R) l.length++[zbV gr [zaW gr gr.G (IntKind.i64.wrap (0-R.f)),zcl gr (sdV out).1 R.kk 1],zbV gr [zaW gr key (IntKind.i64.wrap (0-R.f)),zcl gr (sdV out).2 R.kk 1]]).getD i 0)):=by
  rw[lM]
  simp only[List.append_assoc,List.cons_append,List.nil_append]
  rw[hkey,znE]
  unfold vpB q3 qE
  rw[znE,hpn]
  have e:=zkW (n:=l.length) (f:=fun i=>q1 gr h (vpY gr key l out p) (vpZ gr key l out p) (vpT gr key l out p) p R i&&q2 gr h (vpT gr key l out p) p R l.length i&&q4 gr h (vpT gr key l out p) p R l.length i) (g:=fun i=>eqT gr (vpT gr key l out p) p.Pi.Commits i ((rg (l1F gr (vpY gr key l out p) (vpZ gr key l out p) p) l.length).getD i 0) ((rg (r1F gr h R) l.length).getD i 0)&&eqT gr (vpT gr key l out p) p.Pi.Commits (l.length+i) ((rg (fun i=>p.Chain.getD i 0) l.length).getD i 0) ((rg (r2F gr h p R) l.length).getD i 0)&&eqT gr (vpT gr key l out p) p.Pi.Commits (2*l.length+1+i) ((rg (fun i=>p.Powers.getD i 0) l.length).getD i 0) ((rg (r4F gr h R) l.length).getD i 0)) fun i hi=>by
   simp only[zBZ _ hi];rfl
  rw[e];rfl
 rw[hB]
 rcases hv with⟨rfl,hv⟩|⟨rfl,hv⟩
 ·exact zac hv.symm
 exact zac hv.symm
end
end
theorem zCW {gr:Group}(k:OkG gr) {key h:Int}{B:Bases}{l out:List Cipher}{p:PolyProof}(hn:l.length≤12) (hf:(decide (out.length=l.length)&&spB gr l.length p)=false):zbX gr B key l out p=some false∧zef gr key h l out p=some false:=by
 have e:((out.length:Int) !=(l.length:Int))= !decide (out.length=l.length):=by rw[bne,zdS]
 unfold zbX zef
 rw[e,zwv k (by omega),zwj k (by omega)]
 cases h1:decide (out.length=l.length)
 ·exact⟨rfl,rfl⟩
 rw[h1,Bool.true_and]at hf
 rw[hf]
 exact⟨rfl,rfl⟩
theorem zFM (gr:Group) (hg:Dg gr) (key:Int) {l:List Cipher}(hl:l.length≤13) (out:List Cipher) (p:PolyProof):∃v t,zdU gr key l out p=some (v,t)∧zdR gr key l out p=some (v,t):=by
 by_cases k:OkG gr
 ·obtain⟨B,b1,b2,b3,b4⟩:=zqw k (hg k) key hl
  unfold zdU zdR zfu
  rw[b4,zlY k,zlY k,zki k,b1,show(zay gr key&&(inB 1 12 l.length&&l.all (zbS gr)))=mkB gr key l from rfl]
  cases h1:mkB gr key l
  ·exact⟨false,false,rfl,rfl⟩
  have h1':=h1
  simp only[mkB,inB,Bool.and_eq_true,decide_eq_true_eq]at h1'
  obtain⟨c1,c2,c3⟩:=h1'
  rw[c1]
  cases h2:(inB 1 12 out.length&&out.all (zbS gr))
  ·exact⟨false,false,rfl,rfl⟩
  simp only[Bool.and_eq_true]at h2
  cases h3:(decide (out.length=l.length)&&spB gr l.length p)
  ·obtain⟨e1,e2⟩:=zCW (key:=key) (h:=B.H) (B:=B) k (by omega) h3
   refine⟨false,true,?_,?_⟩
   ·simp[e1]
   simp[e2]
  obtain⟨g1,g2⟩:=Bool.and_eq_true_iff.1 h3
  obtain⟨R,V⟩:=zBC (h:=B.H) c1 (l:=l) (by omega) (List.all_eq_true.1 c3) (List.all_eq_true.1 h2.2) b3 (of_decide_eq_true g1) g2
  have e1:=zAS k V g2
  have e2:=zCN k V g2
  generalize ((p.Pi.Challenges.getD 0 0==vpT gr key l out p)&&vpB gr key B.H l out p R (vpX gr key l out p) (vpY gr key l out p) (vpZ gr key l out p) (vpT gr key l out p) l.length)=v at e1 e2
  refine⟨v,true,?_,?_⟩
  ·simp[e1]
  simp[e2]
 refine⟨false,false,?_,?_⟩
 ·unfold zdU
  rw[zoL k];rfl
 unfold zdR
 rw[zmA k];rfl
theorem zwZ {code c0:List Int}{at_ seed n:Int}{gr:Group}{p:PolyProof}(hb:Bt code) (h:Cu code n (c0,at_,seed)) (hn:n≤2000000000000000) (hg:Gw gr) (ha:p.Places.length≤1000) (hc:p.Powers.length≤1000) (hd:p.Chain.length≤1000) (hp:lp 1000 p.Pi):Rn (zco c0 at_ seed gr p) (fun _=>True):=by
 unfold zco
 refine zab (ziJ (by omega)) (zab (ziJ (by omega)) (zab (ziJ (by omega)) (zaf (zzc hb h (by omega) hg hp (by omega)) fun z4 ⟨_,y4⟩=>zaf (zg8 (m:=3) hb y4 (by omega) (by omega)) fun z5 ⟨⟨i,hi,hi2⟩,y5⟩=>?_)))
 refine zal (fun _=>?_) fun h0=>zal (fun _=>?_) fun h1=>zal (fun _=>?_) fun h2=>?_
 ·refine zaf (ψ:=fun x=>(x.2=true→1≤p.Places.length)∧Cu code (n+100000) x.1) (zal (fun g=>zaf (zh5 hb y5 (by omega)) fun w w1=>zac ⟨fun _=>by have g2:=of_decide_eq_true g;omega,w1.mono (by omega)⟩) fun _=>zac ⟨fun h=>(by cases h),y5.mono (by omega)⟩) fun x ⟨x1,x2⟩=>?_
  refine zaf (ψ:=fun s=>Cu code (n+200000) s.1∧s.2.2.1.length≤2000) (zal (fun g=>zaf (zg8 hb x2 (by omega) (x1 g)) fun w ⟨⟨i,hi,hi2⟩,w2⟩=>zaf (zfC hb w2 (by omega) hg) fun v ⟨_,_,v1⟩=>?_) fun _=>zac ⟨x2.mono (by omega),by dsimp only;omega⟩) fun s ⟨s1,s2⟩=>?_
  ·rw[hi];exact zb1 hi2 (zac ⟨v1.mono (by omega),by simp;omega⟩)
  exact zaf (zh5 hb s1 (by omega)) fun w _=>zaf (ψ:=fun _=>True) (zal (fun _=>zah (by omega) (zac trivial)) fun _=>zac trivial) fun _ _=>zac trivial
 ·refine zaf (ψ:=fun x=>(x.2=true→1≤p.Powers.length)∧Cu code (n+100000) x.1) (zal (fun g=>zaf (zh5 hb y5 (by omega)) fun w w1=>zac ⟨fun _=>by have g2:=of_decide_eq_true g;omega,w1.mono (by omega)⟩) fun _=>zac ⟨fun h=>(by cases h),y5.mono (by omega)⟩) fun x ⟨x1,x2⟩=>?_
  refine zaf (ψ:=fun s=>Cu code (n+200000) s.1∧s.2.2.1.length≤2000) (zal (fun g=>zaf (zg8 hb x2 (by omega) (x1 g)) fun w ⟨⟨i,hi,hi2⟩,w2⟩=>zaf (zfC hb w2 (by omega) hg) fun v ⟨_,_,v1⟩=>?_) fun _=>zac ⟨x2.mono (by omega),by dsimp only;omega⟩) fun s ⟨s1,s2⟩=>?_
  ·rw[hi];exact zb1 hi2 (zac ⟨v1.mono (by omega),by simp;omega⟩)
  exact zaf (zh5 hb s1 (by omega)) fun w _=>zaf (ψ:=fun _=>True) (zal (fun _=>zah (by omega) (zac trivial)) fun _=>zac trivial) fun _ _=>zac trivial
 ·refine zaf (ψ:=fun x=>(x.2=true→1≤p.Chain.length)∧Cu code (n+100000) x.1) (zal (fun g=>zaf (zh5 hb y5 (by omega)) fun w w1=>zac ⟨fun _=>by have g2:=of_decide_eq_true g;omega,w1.mono (by omega)⟩) fun _=>zac ⟨fun h=>(by cases h),y5.mono (by omega)⟩) fun x ⟨x1,x2⟩=>?_
  refine zaf (ψ:=fun s=>Cu code (n+200000) s.1∧s.2.2.1.length≤2000) (zal (fun g=>zaf (zg8 hb x2 (by omega) (x1 g)) fun w ⟨⟨i,hi,hi2⟩,w2⟩=>zaf (zfC hb w2 (by omega) hg) fun v ⟨_,_,v1⟩=>?_) fun _=>zac ⟨x2.mono (by omega),by dsimp only;omega⟩) fun s ⟨s1,s2⟩=>?_
  ·rw[hi];exact zb1 hi2 (zac ⟨v1.mono (by omega),by simp;omega⟩)
  exact zaf (zh5 hb s1 (by omega)) fun w _=>zaf (ψ:=fun _=>True) (zal (fun _=>zah (by omega) (zac trivial)) fun _=>zac trivial) fun _ _=>zac trivial
 exfalso
 rw[hi]at h0 h1 h2
 have a0:¬(i:Int)=0:=by simpa using h0
 have a1:¬(i:Int)=1:=by simpa using h1
 have a2:¬(i:Int)=2:=by simpa using h2
 omega
theorem zCz {code:List Int}(hb:Bt code):Rn (zdt code) (fun z=>Dg z.1∧z.2.2.1.length≤13):=by
 unfold zdt
 refine zaf (zur hb) fun z ⟨⟨z1,z0⟩,z2⟩=>?_
 refine zaf (ψ:=fun y=>y.2=true→1≤y.1.length) ?_ fun y hy=>?_
 ·by_cases k:OkG z.1
  ·exact⟨_,zzj k z.2.1 (by omega) _ _,by
    by_cases g:(mkB z.1 z.2.1 z.2.2.1&&pkB z.1 z.2.2.1.length z.2.2.2.1 z.2.2.2.2.1)=true
    ·rw[if_pos g]
     have m:=zjX.1 g
     intro _
     have:=m.n
     show 1≤(zb5 _ _ _ _ _).length
     rw[zf7,m.pl];omega
    ·rw[if_neg g];intro h;cases h⟩
  exact⟨_,zwG k _ _ _ _,fun h=>by cases h⟩
 obtain⟨p,t,_,e2,e3,e4⟩:=zyn z.1 z0 z.2.1 (l:=z.2.2.1) (by omega) z.2.2.2.1 z.2.2.2.2.1 z.2.2.2.2.2
 have hl:p.Places.length≤1000∧p.Powers.length≤1000∧p.Chain.length≤1000∧p.Pi.Commits.length≤1000∧p.Pi.Challenges.length≤1000∧p.Pi.Responses.length≤1000:=by
  cases t
  ·rw[e3 rfl];simp
  ·exact zyx (by omega) (e4 rfl)
 refine zab e2 (zaf (ψ:=fun x=>(x.2=true→1≤y.1.length)∧Cu code 10 x.1) (zal (fun g=>zaf (zh5 hb (cu0 code) (by omega)) fun w w1=>zac ⟨fun _=>hy g,w1.mono (by omega)⟩) fun _=>zac ⟨fun h=>(by cases h),(cu0 code).mono (by omega)⟩) fun x ⟨x1,x2⟩=>?_)
 refine zaf (ψ:=fun u=>Cu code 100 u.1) (zal (fun g=>?_) fun _=>zac (x2.mono (by omega))) fun u hu=>?_
 ·refine zaf (zg8 hb x2 (by omega) (x1 g)) fun w ⟨⟨i,hi,hi2⟩,w2⟩=>zaf (zmh hb w2 (by omega) z1) fun v v1=>?_
  rw[hi]
  exact zb1 hi2 (zac (v1.mono (by omega)))
 exact zaf (zwZ hb hu (by omega) z1 hl.1 hl.2.1 hl.2.2.1 ⟨hl.2.2.2.1,hl.2.2.2.2.1,hl.2.2.2.2.2⟩) fun _ _=>zac ⟨z0,z2⟩
section
variable {gr:Group}{key h:Int}{l:List Cipher}{perm rs:List Int}{C:Pc}
theorem zCw (k:OkG gr) {B:Bases}(P:PpOk gr key B.H l perm rs C) (hB:zav gr 0=some (B,true)):zd7 gr perm C.a=some (ppP gr B.H perm C l.length,true):=by
 have hn:=P.m.n
 have hpl:=P.m.pl
 have ha:=P.c.a.1
 have hc:pkB gr perm.length perm C.a=true:=by
  simp only[pkB,decide_true,P.m.pb,Bool.true_and,Bool.and_eq_true,decide_eq_true_eq]
  exact⟨by omega,zBa P.c.a.2⟩
 unfold zd7
 rw[zmW,znl.2 k,zes,zkM k (by omega),show(decide (perm.length=perm.length)&&zeZ perm&&(decide (C.a.length=perm.length)&&C.a.all (zet gr)))=pkB gr perm.length perm C.a from rfl,hc]
 have hw:(decide ((1:Int)≤(perm.length:Int))&&decide ((perm.length:Int)≤12))=true:=by simp;omega
 rw[hw,hB]
 have:=zv6 (B:=B) k (zcK k P.hh) P.pr hpl P.c.a.1 (by omega)
 simp[this,ppP]
theorem zut (k:OkG gr) {B:Bases}(hB:zav gr (l.length:Int)=some (B,true)) (P:PpOk gr key h l perm rs C):zdT gr key l (zb5 gr key l perm rs) (ppP gr h perm C l.length)=some true:=by
 have hn:=P.m.n
 have hml:(zb5 gr key l perm rs).length=l.length:=by rw[zf7,P.m.pl]
 have h1:mkB gr key l=true:=(Bool.and_eq_true_iff.1 (zjX.2 P.m)).1
 unfold zdT
 have e1:(((zb5 gr key l perm rs).length:Int)==(l.length:Int))=true:=by rw[zdS,hml];simp
 have e2:(((ppP gr h perm C l.length).length:Int)==(l.length:Int))=true:=by rw[zdS,ppP,zak];simp
 have e3:(inB 1 12 (zb5 gr key l perm rs).length&&(zb5 gr key l perm rs).all (zbS gr))=true:=by
  rw[hml,Bool.and_eq_true];exact⟨by simp[inB];omega,List.all_eq_true.2 (zjR k P.m)⟩
 rw[zkC k key l hB,h1,e1,e2,zki k,e3,zhP k,List.all_eq_true.2 (ztk k P)]
 rfl
theorem zz3 (k:OkG gr) {B:Bases}(hB:zav gr (l.length:Int)=some (B,true)) (P:PpOk gr key h l perm rs C):zdy gr key l (zb5 gr key l perm rs) (ppP gr h perm C l.length)=some (ppX gr key h l perm rs C,true):=by
 have hn:=P.m.n
 have hml:(zb5 gr key l perm rs).length=l.length:=by rw[zf7,P.m.pl]
 have lP:(ppP gr h perm C l.length).length=l.length:=zak _ _
 have a1:=znU k P
 have c3:=zjQ (key:=key) (l:=l) (out:=zb5 gr key l perm rs) (m:=ppP gr h perm C l.length) (by omega) (by omega) (by omega)
 have c4:=(zfM k (s:=sX) (by decide) (by omega) a1.2).1
 unfold zdy
 rw[zut k hB P]
 exact zaB (zab rfl (za9 rfl (zab c3 (zab c4 (zac rfl)))))
theorem zzf (k:OkG gr) {B:Bases}(hB:zav gr (l.length:Int)=some (B,true)) (P:PpOk gr key h l perm rs C):zdj gr key l (zb5 gr key l perm rs) (ppP gr h perm C l.length) (ppW gr key h l perm rs C)=some (ppY gr key h l perm rs C,ppZ gr key h l perm rs C,true):=by
 have hn:=P.m.n
 have hml:(zb5 gr key l perm rs).length=l.length:=by rw[zf7,P.m.pl]
 have lP:(ppP gr h perm C l.length).length=l.length:=zak _ _
 have lW:(ppW gr key h l perm rs C).length=l.length:=zak _ _
 have a2:=znX k P
 have c6:=zjQ (key:=key) (l:=l) (out:=zb5 gr key l perm rs) (m:=ppP gr h perm C l.length++ppW gr key h l perm rs C) (by omega) (by omega) (by rw[List.length_append];omega)
 have c7:=zsO k (L:=ppL gr key h l perm rs C) (by omega) a2.2
 have e2:(((ppW gr key h l perm rs C).length:Int) !=(l.length:Int))=false:=by rw[bne,zdS,lW];simp
 unfold zdj
 rw[zut k hB P,e2,zhP k,List.all_eq_true.2 (zv9 k P)]
 exact zaB (zaf (ψ:=(· =false)) (zab rfl (za9 rfl (za9 rfl (zab rfl (zac rfl))))) fun b hb=>by
  subst hb
  exact za9 rfl (zab (zti (by omega)) (zah (by omega) (zab c6 (zab c7 (zac rfl))))))
theorem zz0 {n:Int}(h0:0≤n) (h1:n≤2000000000) (l:List Int):zfa l n=some (l.all (inB 0 (n-1))):=by
 have h2:zcF l n=some (l.all (inB 0 (n-1))):=ziv (f:=fun x=>zbK x n) fun x _=>by
  unfold zbK ze7
  rw[zaj (n:=n-1) (by omega) (by omega),zyb];rfl
 unfold zfa
 rw[h2];rfl
theorem zGy (k:OkG gr) {n:Nat}(hn:1≤n∧n≤12) {x y z:Int}(hx:E9 gr.Q x) (hy:E9 gr.Q y) (hz:E9 gr.Q z):zdM gr.Q (n:Int) x y z=some (tgN gr.Q x y z n,true):=by
 have hq:=k.q
 have hp:=k.p
 have e1:prB gr.Q=true:=by
  have:=k.pq
  have e:gr.Q=(gr.Q.toNat:Int):=by omega
  rw[e];exact zeU.2 this
 have e2:zfv gr.Q=some true:=by
  unfold zfv
  rw[zlg,e1,show decide (gr.Q≤2000000000)=true by simp;omega];rfl
 have hw:(decide ((1:Int)≤(n:Int))&&decide ((n:Int)≤12))=true:=by simp;omega
 have e3:[x,y,z].all (inB 0 (gr.Q-1))=true:=by
  have a1:=hx.1;have a2:=hx.2;have a3:=hy.1;have a4:=hy.2;have a5:=hz.1;have a6:=hz.2
  simp[inB];omega
 unfold zdM
 rw[e2,zes,hw,zz0 (by omega) (by omega),e3]
 exact zaB (zaf (ψ:=(· =false)) (zab rfl (za9 rfl (zab rfl (za9 rfl (zab rfl (zac rfl)))))) fun b hb=>by
  subst hb
  exact za9 rfl (zab (zwl (by omega) (by omega) hx hy hz) (zac rfl)))
end
def stP (q x y z:Int) (a j:Int):Int:=a*((y*(j+1)+pxN q x (j.toNat+1)-z)%q)%q
theorem zB1 (q x y z a i j:Int):stP q x y z (stP q x y z a i) j=stP q x y z (stP q x y z a j) i:=by
 unfold stP
 generalize (y*(i+1)+pxN q x (i.toNat+1)-z)%q=u
 generalize (y*(j+1)+pxN q x (j.toNat+1)-z)%q=v
 rw[Int.mul_emod (a*u%q),Int.emod_emod,←Int.mul_emod,Int.mul_emod (a*v%q),Int.emod_emod,←Int.mul_emod]
 congr 1
 rw[Int.mul_assoc,Int.mul_comm u v,Int.mul_assoc]
theorem zwB (q x y z:Int) (n:Nat):((List.range n).map fun(i:Nat)=>(i:Int)).foldl (stP q x y z) 1=tgN q x y z n:=by
 induction n with
 |zero=>rfl
 |succ n ih=>
  rw[List.range_succ,List.map_append,List.foldl_append,ih]
  rfl
theorem zvk {l:List Int}(h:zeZ l=true):l.Perm ((List.range l.length).map fun(i:Nat)=>(i:Int)):=by
 have h':=h
 simp only[zeZ,Bool.and_eq_true,zjH,decide_eq_true_eq,List.all_eq_true,inB]at h'
 have hnd:((List.range l.length).map fun(i:Nat)=>(i:Int)).Nodup:=by
  refine List.pairwise_map.2 ?_
  exact List.Pairwise.imp (fun h e=>h (by exact_mod_cast e)) (List.nodup_range (n:=l.length))
 refine(List.perm_ext_iff_of_nodup h'.2 hnd).2 fun a=>⟨fun ha=>?_,fun ha=>?_⟩
 ·have:=h'.1 a ha
  simp only[List.mem_map,List.mem_range]
  exact⟨a.toNat,by omega,by omega⟩
 simp only[List.mem_map,List.mem_range]at ha
 obtain⟨i,hi,rfl⟩:=ha
 exact zw4 h ⟨by omega,by omega⟩
theorem zwy {l:List Int}(h:zeZ l=true) (q x y z:Int):l.foldl (stP q x y z) 1=tgN q x y z l.length:=by
 rw[(zvk h).foldl_eq' (fun i _ j _ a=>zB1 q x y z a i j),zwB]
theorem zt0 {l:List Int}{f:Int→Int→Int}{a:Int}{i:Nat}(hi:i<l.length):(l.take (i+1)).foldl f a=f ((l.take i).foldl f a) (l.getD i 0):=by
 rw[List.take_succ_eq_append_getElem hi,List.foldl_append,zeb hi];rfl
theorem zBk {a q:Int}(ha: -4100000000000000000≤a∧a≤4100000000000000000) (hq:0<q∧q≤2000000000):zfi a q=some (a%q):=by
 have h1:=Int.tmod_lt_of_pos a hq.1
 have h2:=Int.lt_tmod_of_pos a hq.1
 have hQ:q≠0:=by omega
 unfold zfi
 refine zaB (zah hQ (zah hQ (zac ?_)))
 show(IntKind.i64.wrap (a.tmod q+q)).tmod q=a%q
 rw[zaj (by omega) (by omega),Int.tmod_eq_emod_of_nonneg (by omega),Int.add_emod_right]
 rw[Int.tmod_def,Int.sub_mul_emod_self_left]
theorem zCQ {q x j:Int}(hq:1<q∧q≤2000000000) (hx:E9 q x) (hj:0≤j∧j≤1000):zbo (σ:=Int×Int) (fun s52=>
 if decide (s52.2≤j)=true then(
 gd (q≠0)<|
 some (.go ((IntKind.i64.wrap (s52.1*x)).tmod q,IntKind.i64.wrap (s52.2+1))))else(
 some (.out s52.1))) (1,0)=some (pxN q x (j.toNat+1)):=by
 have hQ:q≠0:=by omega
 refine zaB (zc3 (j.toNat+1) (fun i s=>s=(pxN q x i,(i:Int))∧i≤j.toNat+1) ⟨rfl,by omega⟩ ?_ ?_)
 ·rintro i s hi ⟨rfl,_⟩
  refine zgu (by simp;omega) (zah hQ (zac ⟨?_,by omega⟩))
  dsimp only
  rw[(e_m (q:=q) hq.2 (zpv hq.1 x i) hx).2,zaj (n:=(i:Int)+1) (by omega) (by omega)]
  rfl
 rintro s ⟨rfl,_⟩
 exact za9 (by simp;omega) (zac rfl)
theorem zCu {q x y z:Int}(hq:1<q∧q≤2000000000) (hx:E9 q x) (hy:E9 q y) (hz:E9 q z) {perm:List Int}(hp:∀j∈perm,0≤j∧j≤1000) (hb:zeZ perm=true):zap (σ:=Int) (β:=Int) (fun i42 s41=>
 (ix perm i42).bind fun x48=>
 ((zbo (σ:=Int×Int) (fun s52=>
 if decide (s52.2≤x48)=true then(
 gd (q≠0)<|
 some (.go ((IntKind.i64.wrap (s52.1*x)).tmod q,IntKind.i64.wrap (s52.2+1))))else(
 some (.out s52.1))) (1,0):Option Int).bind fun x51=>
 gd (q≠0)<|
 (zfi (IntKind.i64.wrap ((IntKind.i64.wrap ((IntKind.i64.wrap (y*((IntKind.i64.wrap (x48+1)).tmod q)))+x51))-z)) q).bind fun z60=>
 gd (q≠0)<|
 some (.go ((IntKind.i64.wrap (s41*z60)).tmod q)))) (fun s41=>s41) (perm.length) 0 1=some (tgN q x y z perm.length):=by
 have hQ:q≠0:=by omega
 have hq2:0<q∧q≤2000000000:=by omega
 have key:=zfQ (σ:=Int) (γ:=Int) (n:=perm.length) (body:=fun i42 s41=>
  (ix perm i42).bind fun x48=>
  ((zbo (σ:=Int×Int) (fun s52=>
  if decide (s52.2≤x48)=true then(
  gd (q≠0)<|
  some (.go ((IntKind.i64.wrap (s52.1*x)).tmod q,IntKind.i64.wrap (s52.2+1))))else(
  some (.out s52.1))) (1,0):Option Int).bind fun x51=>
  gd (q≠0)<|
  (zfi (IntKind.i64.wrap ((IntKind.i64.wrap ((IntKind.i64.wrap (y*((IntKind.i64.wrap (x48+1)).tmod q)))+x51))-z)) q).bind fun z60=>
  gd (q≠0)<|
  some (.go ((IntKind.i64.wrap (s41*z60)).tmod q)))) (stop:=fun s41=>s41) (s0:=1) (fun i=>(perm.take i).foldl (stP q x y z) 1) rfl fun i hi=>?_
 ·rw[key,List.take_length,zwy hb]
 have hj:=zbU hp hi
 refine zab (zbp hi) ?_
 rw[zt0 hi]
 generalize perm.getD i 0=j at hj
 have hs:E9 q ((perm.take i).foldl (stP q x y z) 1):=by
  clear hj
  cases i with
  |zero=>exact⟨by show(0:Int)≤1;omega,hq.1⟩
  |succ i=>rw[zt0 (by omega)];exact zdB hq2.1 _
 generalize (perm.take i).foldl (stP q x y z) 1=s at hs
 obtain⟨hx1,hx2⟩:=zpv hq.1 x (j.toNat+1)
 obtain⟨hz1,hz2⟩:=id hz
 have b0:=zdB hq2.1 (j+1)
 have h1:0≤y*((j+1)%q):=Int.mul_nonneg hy.1 b0.1
 have h2:y*((j+1)%q)≤2000000000*2000000000:=Int.mul_le_mul (by have:=hy.2;omega) (by have:=b0.2;omega) b0.1 (by omega)
 refine zab (zCQ hq hx hj) (zah hQ ?_)
 rw[zaj (n:=j+1) (by omega) (by omega),Int.tmod_eq_emod_of_nonneg (a:=j+1) (by omega),zaj (n:=y*((j+1)%q)) (by omega) (by omega),zaj (n:=y*((j+1)%q)+pxN q x (j.toNat+1)) (by omega) (by omega),zaj (by omega) (by omega)]
 refine zab (zBk (by omega) hq2) (zah hQ (zac ?_))
 rw[(e_m (q:=q) hq.2 hs (zdB hq2.1 _)).2]
 show _=Stp.go (stP q x y z s j)
 unfold stP
 have e:(y*((j+1)%q)+pxN q x (j.toNat+1)-z)%q=(y*(j+1)+pxN q x (j.toNat+1)-z)%q:=by
  rw[Int.sub_emod,Int.add_emod,Int.mul_emod,Int.emod_emod,←Int.mul_emod,←Int.add_emod,←Int.sub_emod]
 rw[e]
theorem zCD (a b:List Int) (h0:∀x∈a,0≤x∧x≤255) (h1:∀x∈b,0≤x∧x≤255) (hl0:a.length≤1048576) (hl1:b.length≤1048576):zd6 a b=some true:=by
 have hba:Bt a:=⟨h0,by omega⟩
 have hbb:Bt b:=⟨h1,by omega⟩
 unfold zd6
 refine zaB (zal (fun _=>zac rfl) fun _=>?_)
 refine zaf (zur hba) fun z ⟨⟨_,hg⟩,z2⟩=>?_
 obtain⟨gr,key,l,perm,rs,coins⟩:=z
 have hg:Dg gr:=hg
 have z2:l.length≤13:=z2
 dsimp only
 obtain⟨p,t,e1,e2,e3,e4⟩:=zyn gr hg key (l:=l) z2 perm rs coins
 refine zab e1 (zab e2 (zaf (zCz hbb) fun y hy=>?_))
 obtain⟨v,u,f1,f2⟩:=zFM y.1 hy.1 y.2.1 (l:=y.2.2.1) hy.2 y.2.2.2.1 y.2.2.2.2
 refine zab f1 (zab f2 ?_)
 refine zaf (ψ:=(· =false)) (za9 (by simp) (zab zmz (za9 rfl (zab zmz (za9 rfl (zab zmz (za9 rfl (zab (zB7 _) (za9 rfl (za9 (by simp) (zac (by simp)))))))))))) ?_
 rintro _ rfl
 refine za9 rfl (zal (fun _=>zac rfl) fun g=>?_)
 have ht:t=true:=by simpa using g
 subst ht
 obtain⟨k,B,C,rfl,P,rfl,hB⟩:=e4 rfl
 obtain⟨Bn,_,hBn,_⟩:=zsR k (hg k) (n:=l.length) z2
 have hn:=P.m.n
 have hq:=k.q
 have hp:=k.p
 have ha:=P.c.a.1
 have hcl:C.cs.length=l.length+(C.cs.length-l.length):=by have:C.cs.length=C.a.length+_:=List.length_append;omega
 have hs:(C.cs.take l.length).drop 0=C.a:=by rw[List.drop_zero];exact List.take_left' ha
 have hx:E9 gr.Q (ppX gr key B.H l perm rs C):=zei k _ _
 have hy2:E9 gr.Q (ppY gr key B.H l perm rs C):=zei k _ _
 have hz:E9 gr.Q (ppZ gr key B.H l perm rs C):=zei k _ _
 have hM:=zyw k key (l:=l) (by omega) perm rs hBn
 rw[Bool.true_and,zjX.2 P.m,if_pos rfl]at hM
 have hq2:1<gr.Q∧gr.Q≤2000000000:=by omega
 have hpr:=zCu hq2 hx hy2 hz P.pr P.m.pb
 have hT:=zGy k hn hx hy2 hz
 have htg:=zpk hq2.1 (ppX gr key B.H l perm rs C) (ppY gr key B.H l perm rs C) (ppZ gr key B.H l perm rs C) l.length
 rw[hs]
 refine zah (by omega) (zah (by omega) (zab (zCw k P hB) (zab hM (zab (zz3 k hBn P) (zab (zzf k hBn P) (zab hT ?_))))))
 refine zaf (ψ:=(· =false)) (za9 rfl (za9 rfl (za9 rfl (za9 rfl (za9 rfl (zab zmz (zac rfl))))))) ?_
 rintro _ rfl
 refine za9 rfl (zab hpr (zah (show gr.Q≠0 by omega) (zac ?_)))
 show(Int.tmod (tgN _ _ _ _ perm.length) gr.Q==tgN _ _ _ _ l.length)=true
 rw[P.m.pl,Int.tmod_eq_emod_of_nonneg htg.1,Int.emod_eq_of_lt htg.1 htg.2]
 exact beq_self_eq_true _
end Go.Pm
