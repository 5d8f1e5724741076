/-
  FnExactCountedBallots: plain laws.
  No condition.
-/
import Derived.Test.YtplemekcclpaoaaGreatDoorY42
namespace Go.Pm
open Go.Am IntKind
set_option linter.unusedVariables false
set_option linter.unusedSimpArgs false
variable{L:List (List Int)}{R l:List Int}{b:Board}{key:Int}{p:Plan}{x:Sealed}
theorem l4t{a:Int}{r:List Int}(h0:0≤a)(h1:a≤r.length)(hl:r.length≤100000):zce (a::r)=some (r.take a.toNat,r.drop a.toNat,true):=by
 obtain⟨n,rfl⟩:=Int.eq_ofNat_of_zero_le h0;have w:i64.wrap ((n:Int)+1)=((n+1:Nat):Int):=by rw[zak (by omega) (by omega)];omega
 have hlen:((n:Int)::r).length=r.length+1:=rfl;unfold zce;refine zaj (zag (ψ:=(· =false)) (zbf (by rw[hlen];exact beq_eq_false_iff_ne.2 (by omega)) (zae (a:=(n:Int)) rfl (zbf (decide_eq_false (by omega)) (zab (decide_eq_false (by rw[hlen];omega)))))) ?_);rintro _ rfl;refine zbf rfl (zae (a:=(n:Int)) rfl ?_);rw[w,Int.toNat_natCast];refine zaq (by omega) (zaq (by rw[hlen];omega) (zaq (by omega) (zaq (by rw[hlen];omega) (zae (zyZ (by rw[List.length_drop,List.length_take,hlen];omega)) (zab ?_)))));rw[List.take_length,Int.toNat_natCast];rfl
theorem zqM(hl:l.length≤400):Rn (zce l) fun y=>(y.2.2=true→l=zaE y.1++y.2.1)∧y.2.1.length≤l.length:=by
 cases l with
 |nil=>exact⟨([],[],false),rfl,by simp,by simp⟩
 |cons a r=>
  have hlen:(a::r).length=r.length+1:=rfl;by_cases h:0≤a∧a≤r.length
  ·refine⟨_,l4t h.1 h.2 (by omega),fun _=>?_,by rw[List.length_drop,hlen];omega⟩;show a::r=((r.take a.toNat).length:Int)::(r.take a.toNat++r.drop a.toNat);rw[List.take_append_drop,List.length_take,Nat.min_eq_left (by omega),Int.toNat_of_nonneg h.1]
  ·unfold zce;refine zag (ψ:=(· =true)) (zbf (by rw[hlen];exact beq_eq_false_iff_ne.2 (by omega)) (zae (a:=a) rfl (zan (fun h=>zab rfl) fun h2=>zab (decide_eq_true (by rw[hlen];have:=of_decide_eq_false h2;omega))))) ?_;rintro _ rfl;exact zgt rfl (zab ⟨by simp,by simp⟩)
theorem zqJ{p:List Int}(hp:p.length≤1000)(hR:R.length≤1000):zce (zaE p++R)=some (p,R,true):=by
 have e:zaE p++R=(p.length:Int)::(p++R):=rfl;have hl:(p++R).length=p.length+R.length:=List.length_append;rw[e,l4t (by omega) (by omega) (by omega),Int.toNat_natCast,List.take_left,List.drop_left]
theorem zqD(L:List (List Int)):L.length≤(L.flatMap zaE).length:=by
 induction L with
 |nil=>simp
 |cons p L ih=>rw[List.flatMap_cons,List.length_append,List.length_cons];show L.length+1≤(p.length+1)+(L.flatMap zaE).length;omega
theorem zpb(h:za5 (zbS L)=true){p:List Int}(hp:p∈L):za5 p=true:=by
 obtain⟨h1,h2⟩:=zbQ.1 h;unfold zbS at h1 h2;rw[List.all_cons,Bool.and_eq_true,List.all_flatMap]at h2;have h3:=List.all_eq_true.1 h2.2 p hp;unfold zaE at h3;rw[List.all_cons,Bool.and_eq_true]at h3;obtain⟨i,hi,rfl⟩:=List.mem_iff_getElem.1 hp;have:=zqU hi;rw[List.length_cons]at h1;exact zbQ.2 ⟨by omega,h3.2⟩
theorem zCV(l:List Int):Rn (zel l) fun y=>y.2=true→za5 l=true∧l=zbS y.1:=by
 unfold zel;refine zag (ψ:=fun b=>b=false→za5 l=true∧∃a R,l=a::R∧a≤l.length) (zae (zko l) (zan (fun h=>zab (by simp)) fun h=>?_)) ?_
 ·cases l with
  |nil=>exact zgt rfl (zab (by simp))
  |cons a R=>exact zan (fun h2=>zab (by simp)) fun h2=>zae (a:=a) rfl (zab fun e=>⟨by simpa using h,a,R,rfl,by have:=of_decide_eq_false e;omega⟩)
 intro b hb;refine zan (fun h=>zab (by simp)) fun h=>?_
 obtain⟨hr,a,R,rfl,ha⟩:=hb h;obtain⟨hl,hd⟩:=zbQ.1 hr;rw[List.all_cons,Bool.and_eq_true]at hd;have ha0:=zbn.1 hd.1;have hlen:(a::R).length=R.length+1:=rfl;obtain⟨n,rfl⟩:=Int.eq_ofNat_of_zero_le ha0.1;refine zaq (by omega) ?_;refine zag (ψ:=fun c=>(∃o r,c=.inl (o,r)∧o.length=n∧R=o.flatMap zaE++r)∨∃y,c=.inr (y,false)) (zbe n (fun i s=>s.2.2=(i:Int)∧s.1.length=i∧R=s.1.flatMap zaE++s.2.1) ⟨rfl,rfl,by rw[List.take_length];rfl⟩ ?_ ?_) ?_
 ·rintro i ⟨o,r,k⟩ hi ⟨e1,h2,h3⟩;have e1:k=(i:Int):=e1;subst e1;have h2:o.length=i:=h2;have h3:R=o.flatMap zaE++r:=h3;have hrl:r.length≤R.length:=by rw[h3,List.length_append];omega
  refine zae (a:=(n:Int)) rfl (zgt (decide_eq_true (by dsimp only;omega)) (zag (zqM (l:=r) (by omega)) ?_));rintro y ⟨y1,_⟩;refine zan (fun h=>zab (.inr ⟨_,rfl⟩)) fun h=>zaq (by dsimp only;omega) (zab ⟨?_,?_,?_⟩)
  ·show i64.wrap ((i:Int)+1)=_;rw[zak (by omega) (by omega)];rfl
  ·show(o++[y.1]).length=i+1;rw[List.length_append,h2];rfl
  have hy:=y1 (by simpa using h);show R=(o++[y.1]).flatMap zaE++y.2.1;rw[h3,hy,List.flatMap_append,List.append_assoc];simp
 ·rintro⟨o,r,k⟩ ⟨e1,h2,h3⟩;have e1:k=(n:Int):=e1;subst e1;exact zae (a:=(n:Int)) rfl (zbf (decide_eq_false (by dsimp only;omega)) (zab (.inl ⟨o,r,rfl,h2,h3⟩)))
 rintro _ (⟨o,r,rfl,h2,h3⟩|⟨y,rfl⟩)
 ·refine zab fun e=>⟨hr,?_⟩
  have e:((r.length:Int)==0)=true:=e;have:r=[]:=List.eq_nil_of_length_eq_zero (by simpa using e);subst this;show(n:Int)::R=(o.length:Int)::o.flatMap zaE;rw[h2,h3,List.append_nil]
 exact zab (by simp)
theorem zDZ(h:za5 (zbS L)=true):zel (zbS L)=some (L,true):=by
 obtain⟨hl,hd⟩:=zbQ.1 h;have e:zbS L=(L.length:Int)::L.flatMap zaE:=rfl;have hlen:(zbS L).length=(L.flatMap zaE).length+1:=rfl;have hn:=zqD L;unfold zel;refine zaj (zag (ψ:=(· =false)) (zae (zko _) (zbf (by rw[h];rfl) (zbf (beq_eq_false_iff_ne.2 (by omega)) (zae (a:=(L.length:Int)) rfl (zab (decide_eq_false (by omega))))))) ?_);rintro _ rfl;refine zbf rfl (zaq (by omega) (zag (ψ:=(· =.inl (L,[]))) (zbe L.length (fun i s=>s=(L.take i,(L.drop i).flatMap zaE,(i:Int))∧i≤L.length) ⟨by rw[List.take_length];rfl,by omega⟩ ?_ ?_) ?_))
 ·rintro i s hi ⟨rfl,_⟩;have hd2:(L.drop i).flatMap zaE=zaE L[i]++(L.drop (i+1)).flatMap zaE:=by rw[List.drop_eq_getElem_cons hi,List.flatMap_cons]
  have hle:((L.drop i).flatMap zaE).length≤(L.flatMap zaE).length:=by
   have h:(L.take i).flatMap zaE++(L.drop i).flatMap zaE=L.flatMap zaE:=by rw[←List.flatMap_append,List.take_append_drop]
   rw[←h,List.length_append];omega
  rw[hd2,List.length_append]at hle;have hat:=zqU hi;refine zae (a:=(L.length:Int)) rfl (zgt (decide_eq_true (by dsimp only;omega)) (zae (a:=(L[i],(L.drop (i+1)).flatMap zaE,true)) (by dsimp only;rw[hd2];exact zqJ (by omega) (by omega)) (zbf rfl (zaq (by rw[List.length_take];omega) (zab ⟨?_,by omega⟩)))));dsimp only;rw[List.take_succ_eq_append_getElem hi,zak (n:=(i:Int)+1) (by omega) (by omega)];rfl
 ·rintro s ⟨rfl,_⟩;refine zae (a:=(L.length:Int)) rfl (zbf (decide_eq_false (by dsimp only;omega)) (zab ?_));show Sum.inl (L.take L.length,(L.drop L.length).flatMap zaE)=_;rw[List.drop_length,List.take_length];rfl
 rintro _ rfl;exact zab rfl
theorem ztk:∀{a b:List Cipher},(a.flatMap fun c=>[c.A,c.B])=(b.flatMap fun c=>[c.A,c.B])→a=b
 |[],[],_=>rfl
 |[],y::b,h=>by simp at h
 |x::a,[],h=>by simp at h
 |x::a,y::b,h=>by
  have h:x.A::x.B::(a.flatMap fun c=>[c.A,c.B])=y.A::y.B::(b.flatMap fun c=>[c.A,c.B]):=h;injection h with h1 h
  injection h with h2 h
  rw[ztk h];cases x;cases y;simp only at h1 h2;rw[h1,h2]
theorem zyw(q:List Int):Rn (zcV q) fun y=>(y.2=true→za5 q=true∧q=zcW y.1)∧(∀cs,za5 q=true→q=zcW cs→y=(cs,true)):=by
 unfold zcV;refine zag (ψ:=fun b=>(b=false→za5 q=true∧∃a R,q=a::R∧(q.length:Int)=1+2*a)∧(∀cs,za5 q=true→q=zcW cs→b=false)) (zae (zko q) (zan (fun h=>zab ⟨by simp,fun cs h2 _=>by rw[h2]at h;cases h⟩) fun h=>?_)) ?_
 ·have hr:za5 q=true:=by simpa using h
  cases q with
  |nil=>exact zgt rfl (zab ⟨by simp,fun cs _ e=>by unfold zcW at e;cases e⟩)
  |cons a R=>
   have hd:=(zbQ.1 hr).2;rw[List.all_cons,Bool.and_eq_true]at hd;have ha0:=zbn.1 hd.1;refine zbf (beq_eq_false_iff_ne.2 (by simp;omega)) (zae (a:=a) rfl ?_);rw[zak (n:=2*a) (by omega) (by omega),zak (by omega) (by omega)];refine zab ⟨fun e=>⟨hr,a,R,rfl,by simpa using e⟩,fun cs _ e=>?_⟩;have h1:=zpy cs;have h2:a=(cs.length:Int):=by unfold zcW at e;injection e
   rw[e,h1,h2];simp;omega
 rintro b ⟨hb,hb2⟩;refine zan (fun h=>zab ⟨by simp,fun cs h1 h2=>by rw[hb2 cs h1 h2]at h;cases h⟩) fun h=>?_
 obtain⟨hr,a,R,rfl,ha⟩:=hb h;obtain⟨hl,hd⟩:=zbQ.1 hr;rw[List.all_cons,Bool.and_eq_true]at hd;have ha0:=zbn.1 hd.1;obtain⟨n,rfl⟩:=Int.eq_ofNat_of_zero_le ha0.1;have hlen:((n:Int)::R).length=R.length+1:=rfl;have hR:R.length=2*n:=by omega
 refine zag (ψ:=fun o=>o.length=n∧R=o.flatMap fun c=>[c.A,c.B]) (zbe n (fun i s=>s.2=((1+2*i:Nat):Int)∧s.1.length=i∧R=(s.1.flatMap fun c=>[c.A,c.B])++R.drop (2*i)) ⟨rfl,rfl,rfl⟩ ?_ ?_) ?_
 ·rintro i ⟨o,k⟩ hi ⟨e1,h2,h3⟩;obtain⟨m,hm⟩:∃m,m=2*i+1:=⟨_,rfl⟩
  have e1:k=(m:Int):=by have e1:k=((1+2*i:Nat):Int):=e1;omega
  subst e1;have h2:o.length=i:=h2;have h3:R=(o.flatMap fun c=>[c.A,c.B])++R.drop (2*i):=h3;dsimp only;rw[if_pos (decide_eq_true (show(m:Int)<(((n:Int)::R).length:Int)by omega))];refine zbm (k:=m) (by omega) ?_;have w:i64.wrap ((m:Int)+1)=((m+1:Nat):Int):=by rw[zak (by omega) (by omega)];omega
  have w2:i64.wrap ((m:Int)+2)=((1+2*(i+1):Nat):Int):=by rw[zak (by omega) (by omega)];omega
  rw[w,w2];refine zbm (k:=m+1) (by omega) (zaq (by omega) (zab ⟨rfl,by show(o++[_]).length=i+1;rw[List.length_append,h2];rfl,?_⟩));subst hm;rw[List.getElem_cons_succ,List.getElem_cons_succ];show R=((o++[(⟨R[2*i]'(by omega),R[2*i+1]'(by omega)⟩:Cipher)]).flatMap fun c=>[c.A,c.B])++R.drop (2*(i+1))
  have d1:R.drop (2*i)=R[2*i]'(by omega)::R[2*i+1]'(by omega)::R.drop (2*(i+1)):=by
   rw[List.drop_eq_getElem_cons (show 2*i<R.length by omega),List.drop_eq_getElem_cons (show 2*i+1<R.length by omega)];rfl
  rw[List.flatMap_append,List.append_assoc];conv=>lhs;rw[h3,d1]
  rfl
 ·rintro⟨o,k⟩ ⟨e1,h2,h3⟩;have e1:k=((1+2*n:Nat):Int):=e1;subst e1;refine zbf (decide_eq_false (by dsimp only;omega)) (zab ⟨h2,?_⟩);have h3:R=(o.flatMap fun c=>[c.A,c.B])++R.drop (2*n):=h3;rw[List.drop_eq_nil_of_le (by omega),List.append_nil]at h3;exact h3
 rintro o ⟨h2,h3⟩;have e:((n:Int)::R)=zcW o:=by unfold zcW;rw[h2,←h3]
 refine zab ⟨fun _=>⟨hr,e⟩,fun cs _ e2=>?_⟩;rw[e]at e2;rw[ztk (List.cons.inj e2).2]
theorem zpk(p:Proof):zda p=zaE p.Commits++(zaE p.Challenges++(zaE p.Responses++[])):=by simp[zda]
theorem zCp(q:List Int):Rn (zcH q) fun y=>y.2=true→za5 q=true∧q=zda y.1:=by
 unfold zcH;refine zae (zko q) (zan (fun h=>zab (by simp)) fun h=>?_);have hr:za5 q=true:=by simpa using h
 have hl:=(zbQ.1 hr).1;refine zag (zqM hl) ?_;rintro y1 ⟨a1,b1⟩;refine zag (zqM (by omega)) ?_;rintro y2 ⟨a2,b2⟩;refine zag (zqM (by omega)) ?_;rintro y3 ⟨a3,b3⟩;refine zag (ψ:=fun b=>b=false→y1.2.2=true∧y2.2.2=true∧y3.2.2=true∧y3.2.1=[]) (zan (fun h=>zab (by simp)) fun h1=>zan (fun h=>zab (by simp)) fun h2=>zan (fun h=>zab (by simp)) fun h3=>zab fun e=>⟨by simpa using h1,by simpa using h2,by simpa using h3,?_⟩) ?_
 ·have:=of_decide_eq_false e;exact List.eq_nil_of_length_eq_zero (by omega)
 intro b hb;refine zan (fun h=>zab (by simp)) fun h=>zab fun _=>⟨hr,?_⟩
 obtain⟨c1,c2,c3,c4⟩:=hb h;rw[zpk,a1 c1,a2 c2,a3 c3,c4]
theorem zFW{p:Proof}(h:za5 (zda p)=true):zcH (zda p)=some (p,true):=by
 have hl:=(zbQ.1 h).1;have he:=zmV p;have h3:∀q:List Int,(zaE q).length=q.length+1:=fun q=>rfl
 unfold zcH;refine zaj (zae (zko _) (zbf (by rw[h];rfl) ?_));rw[zpk];refine zae (zqJ (by omega) (by rw[List.length_append,List.length_append,h3,h3];simp;omega)) (zae (zqJ (by omega) (by rw[List.length_append,h3];simp;omega)) (zae (zqJ (by omega) (by simp)) (zag (ψ:=(· =false)) (zbf rfl (zbf rfl (zbf rfl (zab rfl)))) ?_)));rintro _ rfl;exact zbf rfl (zab rfl)
theorem zyr(h1:L.length≤1048576)(h2:∀p∈L,p.length≤1048576):zb2 L=some (if za5 (zbS L)=true then(zbS L,true)else([],false)):=by
 unfold zb2;refine zaj (zag (ψ:=fun c=>c=.inl (zbS L)∨(c=.inr ([],false)∧za5 (zbS L)=false)) (zaP (fun i s=>s=(L.length:Int)::(L.take i).flatMap zaE∧(s.length≤400)) ⟨rfl,by simp⟩ ?_ fun s h=>.inl (by rw[h.1,List.take_length];rfl)) ?_)
 ·rintro i s hi ⟨rfl,hs⟩;have hx:=h2 _ (List.getElem_mem hi)
  have e1:(L.length:Int)::(L.take i).flatMap zaE++zaE L[i]=(L.length:Int)::(L.take (i+1)).flatMap zaE:=by
   rw[List.take_succ_eq_append_getElem hi,List.flatMap_append];simp
  have hc:(zaE L[i]).length=L[i].length+1:=rfl;refine zbm hi (zae (zlS (by omega)) (zaq (by rw[hc];omega) ?_));rw[e1];refine zan (fun h=>zab (.inr ⟨rfl,?_⟩)) fun h=>zab ⟨rfl,by have:=of_decide_eq_false h;omega⟩
  have hg:=of_decide_eq_true h;have:=zo5 L (i+1);cases hr:za5 (zbS L)with
  |false=>rfl
  |true=>
   have:=(zbQ.1 hr).1;unfold zbS at this;rw[List.length_cons]at this hg;omega
 rintro c (rfl|⟨rfl,hr⟩)
 ·rw[Sum.elim_inl,zkZ,Option.bind_some];exact zab (by split<;>rfl)
 exact zab (by rw[hr];rfl)
theorem zoL(R:List Int)(b:Bool):Rn (zaL R b) fun y=>y.2.1.length≤R.length:=by
 cases R with
 |nil=>exact⟨_,rfl,by simp⟩
 |cons a R=>exact⟨_,zmO a R b,by simp⟩
theorem zqE(h:R.length≤1048576)(b:Bool):Rn (zaC R b) fun y=>y.1.length≤R.length∧y.2.1.length≤R.length:=by
 unfold zaC;refine zag (zoL R b) fun y hy=>zae (zdX _ _ _) (zan (fun _=>zab ⟨by simp,hy⟩) fun h2=>?_)
 have h2:0≤y.1∧y.1≤(y.2.1.length:Int):=by simpa using h2
 have hl:((y.2.1.take y.1.toNat).drop 0).length≤R.length:=by rw[List.drop_zero,List.length_take];omega
 refine zaq h2.1 (zaq (by omega) (zae (zzR (by omega)) (zaq h2.1 (zaq (by omega) (zab ⟨hl,?_⟩)))));dsimp only;rw[List.length_drop,List.length_take];omega
theorem zoK(R:List Int)(b:Bool):zbk R b=some (b&&((R.length:Int)==0)):=by
 unfold zbk;cases b<;>rfl
theorem zEr(hl:l.length≤1048576):Rn (zbT l) fun y=>y.2=true→za5 l=true∧l=zbS y.1:=by
 unfold zbT;refine zae (zfT l) (zag (zoL l _) fun z hz=>?_);obtain⟨M,hM⟩:∃M:Int,M=if(l.length:Int)<z.1 then(l.length:Int)else z.1:=⟨_,rfl⟩
 rw[←hM];have hM2:M≤l.length:=by rw[hM];split<;>omega
 refine zag (ψ:=fun c=>c.2.length≤1048576∧∀p∈c.2,p.length≤1048576) (zbe M.toNat (fun i s=>s.2.2=(i:Int)∧s.2.1.length=i∧s.1.1.length≤1048576∧∀p∈s.2.1,p.length≤1048576) ⟨rfl,rfl,by dsimp only;omega,fun p h=>by cases h⟩ ?_ ?_) ?_
 ·rintro i ⟨⟨R,b⟩,o,k⟩ hi ⟨e1,h2,h3,h4⟩;have e1:k=(i:Int):=e1;subst e1;have h2:o.length=i:=h2;refine zgt (decide_eq_true (by dsimp only;omega)) (zag (zqE h3 b) fun y hy=>zaq (by dsimp only;omega) (zab ⟨?_,?_,Nat.le_trans hy.2 h3,fun p hp=>?_⟩))
  ·show i64.wrap ((i:Int)+1)=_;rw[zak (by omega) (by omega)];rfl
  ·show(o++[y.1]).length=i+1;rw[List.length_append,h2];rfl
  rcases List.mem_append.1 hp with h|h
  ·exact h4 p h
  rw[List.mem_singleton.1 h];exact Nat.le_trans hy.1 h3
 ·rintro⟨⟨R,b⟩,o,k⟩ ⟨e1,h2,h3,h4⟩;have e1:k=(M.toNat:Int):=e1;subst e1;have h2:o.length=M.toNat:=h2;exact zbf (decide_eq_false (by dsimp only;omega)) (zab ⟨by dsimp only;omega,h4⟩)
 rintro c ⟨c1,c2⟩;refine zae (zyr c1 c2) (zag (ψ:=fun b=>b=false→za5 (zbS c.2)=true∧zbS c.2=l) (zae (zoK _ _) (zan (fun _=>zab (by simp)) fun _=>zan (fun _=>zab (by simp)) fun h2=>zae (zja _ _) (zab fun e=>?_))) ?_)
 ·cases hr:za5 (zbS c.2)with
  |false=>rw[hr]at h2;cases h2
  |true=>
   rw[hr]at e;exact⟨rfl,by simpa using e⟩
 intro b hb;refine zan (fun h=>zab (by simp)) fun h=>zab fun _=>?_
 obtain⟨h1,h2⟩:=hb h;rw[←h2];exact⟨h1,rfl⟩
theorem zra{l:List Cipher}(hl:l.length≤1048576):zcF l=some (if za5 (zcW l)=true then(zcW l,true)else([],false)):=by
 unfold zcF;refine zaj (zag (ψ:=(· =zcW l)) (zaP (fun i s=>s=(l.length:Int)::((l.take i).flatMap fun c=>[c.A,c.B])) rfl ?_ fun s h=>by rw[h,List.take_length];rfl) ?_)
 ·rintro i s hi rfl;have hn:=zyn (l.take i);rw[List.length_take]at hn;refine zbm hi (zaq (by rw[List.length_cons];omega) (zab ?_));show(l.length:Int)::_++_=(l.length:Int)::_;rw[List.take_succ_eq_append_getElem hi,List.flatMap_append];rfl
 rintro _ rfl;exact zae (zkZ _) (zab (by cases za5 (zcW l)<;>rfl))
theorem zCI{q:List Int}(hq:q.length≤1048576):Rn (zcc q) fun y=>y.1.length≤1048576∧(y.2=true→za5 q=true∧q=zcW y.1):=by
 unfold zcc;refine zae (zfT q) (zag (zoL q _) fun z hz=>?_);obtain⟨M,hM⟩:∃M:Int,M=if(q.length:Int)<z.1 then(q.length:Int)else z.1:=⟨_,rfl⟩
 rw[←hM];have hM2:M≤q.length:=by rw[hM];split<;>omega
 refine zag (ψ:=fun c=>c.2.length≤1048576) (zbe M.toNat (fun i s=>s.2.2=(i:Int)∧s.2.1.length=i) ⟨rfl,rfl⟩ ?_ ?_) ?_
 ·rintro i ⟨⟨R,b⟩,o,k⟩ hi ⟨e1,h2⟩;have e1:k=(i:Int):=e1;subst e1;have h2:o.length=i:=h2;refine zgt (decide_eq_true (by dsimp only;omega)) (zag (zoL _ _) fun y hy=>zag (zoL _ _) fun y2 hy2=>zaq (by dsimp only;omega) (zab ⟨?_,?_⟩))
  ·show i64.wrap ((i:Int)+1)=_;rw[zak (by omega) (by omega)];rfl
  show(o++[_]).length=i+1;rw[List.length_append,h2];rfl
 ·rintro⟨⟨R,b⟩,o,k⟩ ⟨e1,h2⟩;have e1:k=(M.toNat:Int):=e1;subst e1;have h2:o.length=M.toNat:=h2;exact zbf (decide_eq_false (by dsimp only;omega)) (zab (by show o.length≤1048576;omega))
 intro c c1;refine zae (zra c1) (zag (ψ:=fun b=>b=false→za5 (zcW c.2)=true∧zcW c.2=q) (zae (zoK _ _) (zan (fun _=>zab (by simp)) fun _=>zan (fun _=>zab (by simp)) fun h2=>zae (zja _ _) (zab fun e=>?_))) ?_)
 ·cases hr:za5 (zcW c.2)with
  |false=>rw[hr]at h2;cases h2
  |true=>
   rw[hr]at e;exact⟨rfl,by simpa using e⟩
 intro b hb;refine zan (fun h=>zab ⟨by simp,by simp⟩) fun h=>zab ⟨c1,fun _=>?_⟩
 obtain⟨h1,h2⟩:=hb h;rw[←h2];exact⟨h1,rfl⟩
theorem zBF{l:List Cipher}(h:za5 (zcW l)=true):zcc (zcW l)=some (l,true):=by
 have hn:=zpy l;have hl:=(zbQ.1 h).1;have e:zcW l=(l.length:Int)::l.flatMap (fun c=>[c.A,c.B]):=rfl;have hmin:(if((zcW l).length:Int)<(l.length:Int)then((zcW l).length:Int)else(l.length:Int))=(l.length:Int):=if_neg (by omega);unfold zcc;refine zaj (zae (zfT _) (zae (a:=((l.length:Int),(l.flatMap (fun c=>[c.A,c.B]),true))) (by rw[h,e];exact zmO _ _ _) ?_));dsimp only;rw[hmin];refine zag (ψ:=(· =(([],true),l))) (zbe l.length (fun i s=>s=(((l.drop i).flatMap (fun c=>[c.A,c.B]),true),l.take i,(i:Int))∧i≤l.length) ⟨rfl,by omega⟩ ?_ ?_) ?_
 ·rintro i s hi ⟨rfl,_⟩;have hd2:(l.drop i).flatMap (fun c=>[c.A,c.B])=l[i].A::l[i].B::(l.drop (i+1)).flatMap (fun c=>[c.A,c.B]):=by rw[List.drop_eq_getElem_cons hi,List.flatMap_cons];rfl
  refine zgt (by simpa using hi) (zae (a:=(l[i].A,(l[i].B::(l.drop (i+1)).flatMap (fun c=>[c.A,c.B]),true))) (by dsimp only;rw[hd2];exact zmO _ _ _) (zae (zmO _ _ _) (zaq (by rw[List.length_take];omega) (zab ⟨?_,by omega⟩))));dsimp only;rw[List.take_succ_eq_append_getElem hi,zak (n:=(i:Int)+1) (by omega) (by omega)];rfl
 ·rintro s ⟨rfl,_⟩;refine zbf (by simp) (zab ?_);show((((l.drop l.length).flatMap (fun c=>[c.A,c.B]),true),l.take l.length):(List Int×Bool)×List Cipher)=_;rw[List.drop_length,List.take_length];rfl
 rintro _ rfl;refine zae (zra (l:=l) (by omega)) (zag (ψ:=(· =false)) (zae (zoK _ _) (zbf rfl (zbf (by rw[h];rfl) (zae (zja _ _) (zab (by simp[h])))))) ?_);rintro _ rfl;exact zbf rfl (zab rfl)
theorem zDC{q:List Int}(hq:q.length≤1048576):Rn (zcs q) fun y=>ziC y.1:=by
 unfold zcs;refine zae (zfT q) (zag (zqE hq _) fun y1 h1=>zag (zqE (by omega) _) fun y2 h2=>zag (zqE (by omega) _) fun y3 h3=>zae (zoK _ _) (zan (fun _=>zab ⟨by simp,by simp,by simp⟩) fun _=>zab ⟨?_,?_,?_⟩))<;>dsimp only<;>omega
theorem zBs{p:Proof}(h:za5 (zda p)=true):zcs (zda p)=some (p,true):=by
 have hl:=(zbQ.1 h).1;have he:=zmV p;have h3:∀q:List Int,(zaE q).length=q.length+1:=fun q=>rfl
 unfold zcs;refine zaj (zae (zfT _) ?_);rw[h,zpk];exact zae (zqR (by omega) (by rw[List.length_append,List.length_append,h3,h3];simp;omega)) (zae (zqR (by omega) (by rw[List.length_append,h3];simp;omega)) (zae (zqR (by omega) (by simp)) (zae zyE (zbf rfl (zab rfl)))))
theorem zAq(h:za5 (zbS L)=true):zbT (zbS L)=some (L,true):=zBi (zbQ.1 h).1 (zbQ.1 h).2
def RcO(l:List Int)(x:Sealed):Prop:=l=zgs x∧za5 l=true∧inB 0 999999 x.Voter=true
theorem zi8(h:za5 (zgs x)=true):za5 (zcW x.Ciphers)=true∧(∀p∈x.Proofs++[x.Sum],za5 (zda p)=true)∧x.Proofs.length≤400:=by
 have hs:∀p∈zez x,za5 p=true:=fun p hp=>zpb h hp
 refine⟨hs _ (by unfold zez;simp),fun p hp=>hs _ (List.mem_append_right _ (List.mem_map.2 ⟨p,hp,rfl⟩)),?_⟩;have h1:=(zbQ.1 h).1;have h2:=zqD (zez x);have h3:(zez x).length=x.Proofs.length+3:=by unfold zez;simp
 have h4:(zgs x).length=((zez x).flatMap zaE).length+1:=rfl;omega
theorem zyu(h1:x.Ciphers.length≤1048576)(h2:x.Proofs.length≤1048576)(h3:∀p∈x.Proofs++[x.Sum],ziC p):Rn (zcU x) fun y=>(y.2=true→y.1=zgs x∧za5 (zgs x)=true∧inB 0 999999 x.Voter=true)∧(za5 (zgs x)=true→inB 0 999999 x.Voter=true→y=(zgs x,true)):=by
 unfold zcU;refine zae (zra h1) ?_;refine zag (ψ:=fun b=>(b=false→za5 (zcW x.Ciphers)=true∧inB 0 999999 x.Voter=true∧x.Proofs.length≤400)∧(b=true→¬(za5 (zgs x)=true∧inB 0 999999 x.Voter=true))) (zan (fun e=>zab ⟨by simp,fun _ hh=>?_⟩) fun e=>zae (zof _) (zan (fun e2=>zab ⟨by simp,fun _ hh=>by rw[hh.2]at e2;cases e2⟩) fun e2=>zab ⟨fun e3=>⟨?_,by simpa using e2,by have:=of_decide_eq_false e3;omega⟩,fun e3 hh=>by have:=(zi8 hh.1).2.2;have:=of_decide_eq_true e3;omega⟩)) ?_
 ·rw[(zi8 hh.1).1]at e;cases e
 ·cases hr:za5 (zcW x.Ciphers)with
  |true=>rfl
  |false=>rw[hr]at e;cases e
 rintro b ⟨hb,hb2⟩;refine zan (fun h=>zab ⟨by simp,fun a b=>absurd ⟨a,b⟩ (hb2 h)⟩) fun h=>?_
 obtain⟨g1,g2,g3⟩:=hb h
 have hk:zbh x.Proofs=some x.Proofs:=by
  unfold zbh;rw[zb9 (by omega)]
 rw[if_pos g1];have hln:(x.Proofs++[x.Sum]).length=x.Proofs.length+1:=by simp
 refine zae hk (zaq (by omega) (zag (ψ:=fun c=>c=.inl (zez x)∧(∀p∈zez x,p.length≤1048576)∨(c=.inr ([],false)∧za5 (zgs x)=false)) (zaP (fun i s=>s=[[x.Voter],zcW x.Ciphers]++((x.Proofs++[x.Sum]).take i).map zda∧∀p∈s,p.length≤1048576) ⟨by simp,fun p hp=>?_⟩ ?_ fun s h=>.inl ⟨by rw[h.1,List.take_length];rfl,by
  have:=h.2
  rw[h.1,List.take_length]at this;exact this⟩) ?_))
 ·simp only[List.mem_cons,List.not_mem_nil,or_false]at hp;rcases hp with rfl|rfl
  ·simp
  have:=(zbQ.1 g1).1;omega
 ·rintro i s hi ⟨rfl,hs⟩;have o:=h3 _ (List.getElem_mem hi);refine zbm hi (zae (zqm o.1 o.2.1 o.2.2) ?_);cases hr:za5 (zda (x.Proofs++[x.Sum])[i])with
  |false=>
   refine zgt (by rfl) (zab (.inr ⟨rfl,?_⟩));cases hr2:za5 (zgs x)with
   |false=>rfl
   |true=>rw[(zi8 hr2).2.1 _ (List.getElem_mem hi)]at hr;cases hr
  |true=>
   refine zbf (by rfl) (zaq (by simp at hi⊢;omega) (zab ⟨?_,fun p hp=>?_⟩))
   ·rw[List.take_succ_eq_append_getElem hi,List.map_append,←List.append_assoc];rfl
   ·rcases List.mem_append.1 hp with hp|hp
    ·exact hs p hp
    ·rw[List.mem_singleton.1 hp];have:=(zbQ.1 hr).1;show(zda _).length≤1048576;omega
 rintro c (⟨rfl,hp⟩|⟨rfl,hr⟩)
 ·have hpl:(zez x).length=x.Proofs.length+3:=by unfold zez;simp
  refine zae (zyr (by omega) hp) (zab ?_);show _∧(za5 (zbS (zez x))=true→_);cases hr:za5 (zbS (zez x))with
  |false=>exact⟨by simp,by simp⟩
  |true=>exact⟨fun _=>⟨rfl,hr,g2⟩,fun _ _=>rfl⟩
 exact zab ⟨by simp,fun a=>by rw[a]at hr;cases hr⟩
theorem zvP{α:Type}{l:List α}(h:l.length=1):∃v,l=[v]:=List.length_eq_one_iff.1 h
theorem zrm{α:Type}{l:List α}(h:3≤l.length):∃a b r,l=a::b::r∧r≠[]:=by
 match l,h with
 |a::b::c::r,_=>exact⟨a,b,c::r,rfl,by simp⟩
theorem zzb{α:Type}{l:List α}{n:Nat}(h:l.length=n+1):∃x,l=l.take n++[x]∧l[n]? =some x:=by
 have hn:n<l.length:=by omega
 refine⟨l[n],?_,List.getElem?_eq_getElem hn⟩;have:=List.take_succ_eq_append_getElem hn;rw[←this,←h,List.take_length]
theorem zCZ(hl:l.length≤1048576):Rn (zbz l) fun y=>y.2=true→RcO l y.1:=by
 unfold zbz;refine zag (zEr hl) fun z hz=>?_
 refine zag (ψ:=fun b=>b=false→z.2=true∧∃v c r,z.1=[v]::c::r∧r≠[]) (zan (fun h=>zab (by simp)) fun h=>zan (fun h=>zab (by simp)) fun h2=>?_) fun b hb=>zan (fun h=>zab (by simp)) fun h=>?_
 ·obtain⟨a,c,r,e,hr⟩:=zrm (l:=z.1) (by have:=of_decide_eq_false h2;omega);rw[e];refine zae (a:=a) rfl (zab fun e2=>⟨by simpa using h,?_⟩);obtain⟨v,rfl⟩:=zvP (l:=a) (by have h9:(a.length:Int)=1:=(by simpa using e2);omega);exact⟨v,c,r,rfl,hr⟩
 obtain⟨h2,v,c,r,e,hr⟩:=hb h;obtain⟨hrec,hjl⟩:=hz h2;rw[e]at hjl⊢;subst hjl;have hsub:∀p∈[v]::c::r,za5 p=true:=fun p hp=>zpb hrec hp
 have hc:=zbQ.1 (hsub c (by simp));have hll:=(zbQ.1 hrec).1;have hjn:=zqD ([v]::c::r);have hjl:(zbS ([v]::c::r)).length=(([v]::c::r).flatMap zaE).length+1:=rfl;have hrl:([v]::c::r).length=r.length+2:=rfl;refine zae (a:=c) rfl (zag (zCI (by omega)) fun y hy=>zae (a:=[v]) rfl (zae (a:=v) rfl (zaq (by omega) ?_)));have hdr:(([v]::c::r).take ([v]::c::r).length).drop 2=r:=by rw[List.take_length];rfl
 rw[hdr];refine zag (ψ:=fun s=>s.2.1=v∧s.2.2.1=y.1∧s.2.2.2.1.length=r.length∧∀p∈s.2.2.2.1,ziC p) (zaP (fun i s=>s.2.1=v∧s.2.2.1=y.1∧s.2.2.2.1.length=i∧∀p∈s.2.2.2.1,ziC p) ⟨rfl,rfl,rfl,fun p h=>by cases h⟩ ?_ fun s h=>h) ?_
 ·rintro i s hi ⟨e1,e2,e3,e4⟩;have hp:=zbQ.1 (hsub r[i] (by simp));refine zbm hi (zag (zDC (by omega)) fun p hp=>zag (ψ:=fun _=>True) (zan (fun _=>zab trivial) fun _=>zab trivial) fun b _=>zaq (by omega) (zab ⟨e1,e2,?_,fun q hq=>?_⟩))
  ·show(s.2.2.2.1++[p.1]).length=i+1;rw[List.length_append,e3];rfl
  rcases List.mem_append.1 hq with h|h
  ·exact e4 q h
  rw[List.mem_singleton.1 h];exact hp
 rintro s ⟨e1,e2,e3,e4⟩;obtain⟨n,hn⟩:∃n,r.length=n+1:=⟨r.length-1,by have:=List.length_pos_iff.2 hr;omega⟩
 have w:i64.wrap ((s.2.2.2.1.length:Int)-1)=(n:Int):=by rw[zak (by omega) (by omega)];omega
 obtain⟨x,hx,hx2⟩:=zzb (l:=s.2.2.2.1) (n:=n) (by omega);have hmem:∀q∈s.2.2.2.1.take n++[x],ziC q:=by rw[←hx];exact e4
 rw[w,Int.toNat_natCast,e1,e2];refine zae (zCO hx2) (zaq (by omega) (zaq (by omega) (zag (zyu (by exact hy.1) (by show(s.2.2.2.1.take n).length≤1048576;rw[List.length_take];omega) hmem) ?_)));rintro z2 ⟨k1,_⟩;refine zag (ψ:=fun b=>b=false→z2.2=true∧z2.1=zbS ([v]::c::r)) (zan (fun _=>zab (by simp)) fun _=>zan (fun _=>zab (by simp)) fun h3=>zae (zja _ _) (zab fun e=>⟨by simpa using h3,by simpa using e⟩)) fun b hb=>zan (fun h=>zab (by simp)) fun h=>zab fun _=>?_
 obtain⟨g1,g2⟩:=hb h;obtain⟨j1,j2,j3⟩:=k1 g1;exact⟨by rw[←g2,j1],hrec,j3⟩
theorem zCD(h:RcO (zgs x) x):zbz (zgs x)=some (x,true):=by
 obtain⟨_,hr,hv⟩:=h;obtain⟨hc,hp,hm⟩:=zi8 hr;have hpl:(zez x).length=x.Proofs.length+3:=by unfold zez;simp
 have hcl:=(zbQ.1 hc).1;have hcn:=zpy x.Ciphers
 have hsr:zcU x=some (zgs x,true):=by
  obtain⟨y,y1,_,y2⟩:=zyu (x:=x) (by omega) (by omega) fun p q=>by
   have:=(zbQ.1 (hp p q)).1;have:=zmV p;exact⟨by omega,by omega,by omega⟩
  rw[y1,y2 hr hv]
 have hdr:((zez x).take (zez x).length).drop 2=(x.Proofs++[x.Sum]).map zda:=by rw[List.take_length];rfl
 have hln:((x.Proofs++[x.Sum]).map zda).length=(x.Proofs++[x.Sum]).length:=List.length_map ..;have hn:(x.Proofs++[x.Sum]).length=x.Proofs.length+1:=by simp
 unfold zbz;refine zaj (zae (zAq (L:=zez x) hr) (zag (ψ:=(· =false)) (zbf rfl (zbf (decide_eq_false (by dsimp only;omega)) (zae (a:=[x.Voter]) rfl (zab rfl)))) ?_));rintro _ rfl;refine zbf rfl (zae (a:=zcW x.Ciphers) rfl (zae (zBF hc) (zae (a:=[x.Voter]) rfl (zae (a:=x.Voter) rfl (zaq (by dsimp only;omega) ?_)))));dsimp only;rw[hdr,hln];refine zag (ψ:=(· =(true,x.Voter,x.Ciphers,x.Proofs++[x.Sum],[],[],[]))) (zaP (fun i s=>s=(true,x.Voter,x.Ciphers,(x.Proofs++[x.Sum]).take i,[],[],[])) rfl ?_ ?_) ?_
 ·rintro i s hi rfl;refine zbm (by rw[hln];exact hi) ?_;rw[List.getElem_map];refine zae (zBs (hp _ (List.getElem_mem hi))) (zae (a:=true) rfl (zaq (by rw[List.length_take];omega) (zab ?_)));rw[List.take_succ_eq_append_getElem hi];rfl
 ·rintro s rfl;rw[List.take_length]
 rintro _ rfl;have w:i64.wrap (((x.Proofs++[x.Sum]).length:Int)-1)=(x.Proofs.length:Int):=by rw[zak (by omega) (by omega)];omega
 have hlast:ix (x.Proofs++[x.Sum]) (x.Proofs.length:Int)=some x.Sum:=by
  rw[za3 (by omega)];simp
 have hx:(Sealed.mk x.Voter x.Ciphers ((x.Proofs++[x.Sum]).take x.Proofs.length) x.Sum)=x:=by rw[List.take_left]
 dsimp only;rw[w];refine zae hlast (zaq (by omega) (zaq (by rw[Int.toNat_natCast];omega) ?_));rw[Int.toNat_natCast,hx];refine zae hsr (zag (ψ:=(· =false)) (zbf rfl (zbf rfl (zae (zja _ _) (zab (by simp))))) ?_);rintro _ rfl;exact zbf rfl (zab rfl)
theorem zFL(l:List Int):Rn (zcu l) fun y=>y.2=true→RcO l y.1:=by
 unfold zcu;refine zag (zCV l) fun z hz=>?_
 refine zag (ψ:=fun b=>b=false→z.2=true∧∃v c r,z.1=[v]::c::r∧r≠[]∧v≤999999) (zan (fun h=>zab (by simp)) fun h=>zan (fun h=>zab (by simp)) fun h2=>?_) fun b hb=>zan (fun h=>zab (by simp)) fun h=>?_
 ·obtain⟨a,c,r,e,hr⟩:=zrm (l:=z.1) (by have:=of_decide_eq_false h2;omega);rw[e];refine zae (a:=a) rfl (zan (fun h=>zab (by simp)) fun h3=>?_);obtain⟨v,rfl⟩:=zvP (l:=a) (by have h9:(a.length:Int)=1:=(by simpa using h3);omega);exact zae (a:=v) rfl (zab fun e2=>⟨by simpa using h,v,c,r,rfl,hr,by have:=of_decide_eq_false e2;omega⟩)
 obtain⟨h2,v,c,r,e,hr,hv⟩:=hb h;obtain⟨hrec,hjl⟩:=hz h2;rw[e]at hjl⊢;subst hjl;have hsub:∀p∈[v]::c::r,za5 p=true:=fun p hp=>zpb hrec hp
 have hll:=(zbQ.1 hrec).1;have hjn:=zqD ([v]::c::r);have hjl:(zbS ([v]::c::r)).length=(([v]::c::r).flatMap zaE).length+1:=rfl;have hrl:([v]::c::r).length=r.length+2:=rfl
 have hv0:zaO v=true:=by
  have:=(zbQ.1 (hsub [v] (by simp))).2;simpa using this
 have hvi:inB 0 999999 v=true:=zfl.2 ⟨(zbn.1 hv0).1,hv⟩;refine zae (a:=[v]) rfl (zae (a:=v) rfl (zae (a:=c) rfl (zag (zyw c) ?_)));rintro y ⟨hy,_⟩;refine zan (fun h=>zab (by simp)) fun hy2=>zaq (by omega) ?_
 obtain⟨_,hcv⟩:=hy (by simpa using hy2);have hdr:(([v]::c::r).take ([v]::c::r).length).drop 2=r:=by rw[List.take_length];rfl
 have w:i64.wrap ((([v]::c::r).length:Int)-3)=(r.length:Int)-1:=by rw[zak (by omega) (by omega)];omega
 rw[hdr,w];refine zag (ψ:=fun o=>(∃s,o=.inl s∧s.1=v∧s.2.1=y.1∧r=(s.2.2.1++[Proof.mk s.2.2.2.1 s.2.2.2.2.1 s.2.2.2.2.2]).map zda)∨∃q,o=.inr (q,false)) (zaP (fun i s=>s.1=v∧s.2.1=y.1∧(i<r.length→r.take i=s.2.2.1.map zda)∧(i=r.length→r=(s.2.2.1++[Proof.mk s.2.2.2.1 s.2.2.2.2.1 s.2.2.2.2.2]).map zda)) ⟨rfl,rfl,fun _=>rfl,fun h=>absurd (List.eq_nil_of_length_eq_zero h.symm) hr⟩ ?_ fun s h=>.inl ⟨_,rfl,h.1,h.2.1,h.2.2.2 rfl⟩) ?_
 ·rintro i s hi ⟨e1,e2,e3,_⟩;have e3:=e3 hi
  have hsl:s.2.2.1.length=i:=by
   have:=congrArg List.length e3;rw[List.length_take,List.length_map]at this;omega
  refine zag (ψ:=fun o=>(∃q,o=.inr (.out (.inr (q,false))))∨∃s2,o=.inl s2∧s2.1=v∧s2.2.1=y.1∧(i+1<r.length→r.take (i+1)=s2.2.2.1.map zda)∧(i+1=r.length→r=(s2.2.2.1++[Proof.mk s2.2.2.2.1 s2.2.2.2.2.1 s2.2.2.2.2.2]).map zda)) (zbm hi (zag (zCp _) fun p hp=>zan (fun _=>zab (.inl ⟨_,rfl⟩)) fun h=>?_)) ?_
  ·obtain⟨_,hpe⟩:=hp (by simpa using h);have ht:r.take (i+1)=(s.2.2.1++[p.1]).map zda:=by rw[List.take_succ_eq_append_getElem hi,e3,hpe,List.map_append];rfl
   refine zan (fun h=>?_) fun h=>zaq (by omega) (zab (.inr ⟨_,rfl,e1,e2,fun _=>ht,fun h2=>?_⟩))
   ·have h:(i:Int)=(r.length:Int)-1:=by simpa using h
    refine zab (.inr ⟨_,rfl,e1,e2,fun h2=>by omega,fun h2=>?_⟩);rw[h2,List.take_length]at ht;exact ht
   have h:(i:Int)≠(r.length:Int)-1:=by simpa using h
   omega
  rintro o (⟨q,rfl⟩|⟨s2,rfl,k⟩)
  ·exact zab (.inr ⟨_,rfl⟩)
  exact zab k
 rintro o (⟨s,rfl,e1,e2,e3⟩|⟨q,rfl⟩)
 ·refine zab fun _=>⟨?_,hrec,by show inB 0 999999 s.1=true;rw[e1];exact hvi⟩
  show zbS ([v]::c::r)=zbS ([[s.1],zcW s.2.1]++(s.2.2.1++[Proof.mk s.2.2.2.1 s.2.2.2.2.1 s.2.2.2.2.2]).map zda);rw[e1,e2,←e3,←hcv];rfl
 exact zab (by simp)
theorem zDD(h:RcO (zgs x) x):zcu (zgs x)=some (x,true):=by
 obtain⟨_,hr,hv⟩:=h;obtain⟨hc,hp,hm⟩:=zi8 hr;have hpl:(zez x).length=x.Proofs.length+3:=by unfold zez;simp
 have hv2:=zfl.1 hv;have hdr:((zez x).take (zez x).length).drop 2=(x.Proofs++[x.Sum]).map zda:=by rw[List.take_length];rfl
 have hln:((x.Proofs++[x.Sum]).map zda).length=(x.Proofs++[x.Sum]).length:=List.length_map ..;have hn:(x.Proofs++[x.Sum]).length=x.Proofs.length+1:=by simp
 have hci:zcV (zcW x.Ciphers)=some (x.Ciphers,true):=by
  obtain⟨y,y1,_,y2⟩:=zyw (zcW x.Ciphers);rw[y1,y2 _ hc rfl]
 unfold zcu;refine zaj (zae (zDZ (L:=zez x) hr) (zag (ψ:=(· =false)) (zbf rfl (zbf (decide_eq_false (by dsimp only;omega)) (zae (a:=[x.Voter]) rfl (zbf rfl (zae (a:=x.Voter) rfl (zab (decide_eq_false (by omega)))))))) ?_));rintro _ rfl;refine zbf rfl (zae (a:=[x.Voter]) rfl (zae (a:=x.Voter) rfl (zae (a:=zcW x.Ciphers) rfl (zae hci (zbf rfl (zaq (by dsimp only;omega) ?_))))));have w:i64.wrap (((zez x).length:Int)-3)=(x.Proofs.length:Int):=by rw[zak (by omega) (by omega)];omega
 dsimp only;rw[hdr,hln,w];refine zag (ψ:=(· =.inl (x.Voter,x.Ciphers,x.Proofs,x.Sum.Commits,x.Sum.Challenges,x.Sum.Responses))) (zaP (fun i s=>(i<(x.Proofs++[x.Sum]).length→s=(x.Voter,x.Ciphers,x.Proofs.take i,[],[],[]))∧(i=(x.Proofs++[x.Sum]).length→s=(x.Voter,x.Ciphers,x.Proofs,x.Sum.Commits,x.Sum.Challenges,x.Sum.Responses))) ⟨fun _=>rfl,fun h=>by omega⟩ ?_ fun s h=>by rw[h.2 rfl]) ?_
 ·rintro i s hi ⟨hs,_⟩;rw[hs hi];refine zag (ψ:=fun o=>∃s2,o=.inl s2∧(i+1<(x.Proofs++[x.Sum]).length→s2=(x.Voter,x.Ciphers,x.Proofs.take (i+1),[],[],[]))∧(i+1=(x.Proofs++[x.Sum]).length→s2=(x.Voter,x.Ciphers,x.Proofs,x.Sum.Commits,x.Sum.Challenges,x.Sum.Responses))) (zbm (by rw[hln];exact hi) ?_) ?_
  ·rw[List.getElem_map];refine zae (zFW (hp _ (List.getElem_mem hi))) (zbf rfl (zan (fun h=>?_) fun h=>?_))
   ·have h:(i:Int)=(x.Proofs.length:Int):=by simpa using h
    have h:i=x.Proofs.length:=by omega
    subst h;refine zab ⟨_,rfl,fun h2=>by omega,fun _=>?_⟩;dsimp only;rw[List.take_length,List.getElem_append_right (Nat.le_refl _)];simp
   have h:(i:Int)≠(x.Proofs.length:Int):=by simpa using h
   have hi2:i<x.Proofs.length:=by omega
   refine zaq (by dsimp only;rw[List.length_take];omega) (zab ⟨_,rfl,fun _=>?_,fun h2=>by omega⟩);dsimp only;rw[List.take_succ_eq_append_getElem hi2,List.getElem_append_left hi2]
  rintro o ⟨s2,rfl,k⟩;exact zab k
 rintro _ rfl;exact zab rfl
theorem zDK(hl:l.length≤1048576):∃x y t,zbz l=some (x,t)∧zcu l=some (y,t)∧(t=true→y=x∧RcO l x):=by
 obtain⟨⟨x,t⟩,h1,h2⟩:=zCZ hl;obtain⟨⟨y,t2⟩,h3,h4⟩:=zFL l;cases t with
 |true=>
  have h:=h2 rfl;have hl2:l=zgs x:=h.1;subst hl2;exact⟨x,x,true,h1,zDD h,fun _=>⟨rfl,h⟩⟩
 |false=>
  cases t2 with
  |false=>exact⟨x,y,false,h1,h3,by simp⟩
  |true=>
   have h:=h4 rfl;have hl2:l=zgs y:=h.1;subst hl2;rw[zCD h]at h1;cases h1
theorem zv4(h:zd6 p=some true):zea p.Gr p.Ct=some true:=by
 obtain⟨b,s1,_⟩:=zn5 p.Gr p.Ct;cases b with
 |true=>exact s1
 |false=>
  unfold zd6 at h;rw[s1]at h;cases h
structure PlC (p:Plan):Prop where
 pg:OkG p.Gr
 pc:OkC p.Ct
 pd:zei p.Ct=true→p.Ct.Most-p.Ct.Least<8
 pt:1≤p.Trustees∧p.Trustees≤4
 ph:1≤p.Threshold∧p.Threshold≤p.Trustees
 pm:0≤p.Mixers∧p.Mixers≤3
 pv:1≤p.Voters∧p.Voters≤12
 ps:zaO p.Seed=true
theorem zAV(h:RcO l x):seN x:=by
 obtain⟨rfl,hr,_⟩:=h;have hp:=(zi8 hr).2.1
 have hb:∀p∈x.Proofs++[x.Sum],ziC p:=fun p q=>by
  have:=(zbQ.1 (hp p q)).1;have:=zmV p;exact⟨by omega,by omega,by omega⟩
 have hs:=hb x.Sum (by simp);exact⟨fun p q=>(hb p (List.mem_append_left _ q)).1,hs.1,hs.2.1,hs.2.2⟩
noncomputable def zfs(p:Plan)(key:Int)(e:Entry):Option Nat:=match zcj p key e with
 |some (y,true)=>some y.Voter.toNat
 |_=>none
theorem zyt(o:PlC p)(hk:zar p.Gr key=true){e:Entry}(he:e.Data.length≤1048576):
 ∃x y t,zcx p key e=some (x,t)∧zcj p key e=some (y,t)∧(t=false→zfs p key e=none)∧(t=true→∃v:Nat,x.Voter=(v:Int)∧y.Voter=(v:Int)∧(v:Int)<p.Voters∧zfs p key e=some v):=by
 obtain⟨x,y,t,h1,h2,h3⟩:=zDK he
 have fin:∀{r:Option (Sealed×Bool)}{q:Option (Sealed×Bool)}{x0 y0:Sealed}{t0:Bool},r=some (x0,t0)→q=some (y0,t0)→q=zcj p key e→(t0=true→x0=y0∧inB 0 999999 y0.Voter=true∧y0.Voter<p.Voters)→
  ∃x y t,r=some (x,t)∧q=some (y,t)∧(t=false→zfs p key e=none)∧(t=true→∃v:Nat,x.Voter=(v:Int)∧y.Voter=(v:Int)∧(v:Int)<p.Voters∧zfs p key e=some v):=by
  intro r q x0 y0 t0 hr hq hqe ht;refine⟨x0,y0,t0,hr,hq,fun h0=>?_,fun h0=>?_⟩
  ·unfold zfs;rw[←hqe,hq,h0]
  ·obtain⟨rfl,hv,hv2⟩:=ht h0;have hv:=zfl.1 hv;obtain⟨v,e1⟩:=Int.eq_ofNat_of_zero_le hv.1;refine⟨v,e1,e1,by omega,?_⟩;unfold zfs;rw[←hqe,hq,h0];show some x0.Voter.toNat=some v;rw[e1,Int.toNat_natCast]
 have hS:∀{y0:Sealed}{t0:Bool},zcj p key e=some (y0,t0)→True:=fun _=>trivial
 cases t with
 |false=>
  refine fin (x0:=⟨0,[],[],⟨[],[],[]⟩⟩) (y0:=⟨0,[],[],⟨[],[],[]⟩⟩) (t0:=false) ?_ ?_ rfl (by simp)
  ·unfold zcx;rw[h1];rfl
  ·unfold zcj;rw[h2];rfl
 |true=>
  obtain⟨rfl,hR⟩:=h3 rfl;have hx:=zAV hR;have hv:=zfl.1 hR.2.2;have b1:=zAE o.pg hk o.pc o.pd hx;have b2:=zAd o.pg hk o.pc o.pd hx;have ov:=o.pv;have hw:i64.wrap (p.Voters-1)=p.Voters-1:=zak (by omega) (by omega)
  have iI:zcx p key e=(if((e.Kind !=3)||((e.Author !=i64.wrap (i64.wrap (i64.wrap (1+p.Trustees)+p.Mixers)+y.Voter))||decide (p.Voters≤y.Voter)))=true then some (⟨0,[],[],⟨[],[],[]⟩⟩,false)else if seB p.Gr key p.Ct y=true then some (y,true)else some (⟨0,[],[],⟨[],[],[]⟩⟩,false)):=by
   unfold zcx zfw;rw[h1];simp only[Option.bind_some,Bool.not_true,Bool.false_eq_true,if_false,zdX,hw,b1]
   have:(decide (0≤y.Voter)&&decide (y.Voter≤p.Voters-1))= !decide (p.Voters≤y.Voter):=by
    rw[decide_eq_true hv.1,Bool.true_and];by_cases h:p.Voters≤y.Voter
    ·rw[decide_eq_true h,decide_eq_false (by omega)];rfl
    ·rw[decide_eq_false h,decide_eq_true (by omega)];rfl
   rw[this];cases (e.Kind !=3)<;>cases (e.Author !=i64.wrap (i64.wrap (i64.wrap (1+p.Trustees)+p.Mixers)+y.Voter))<;>cases decide (p.Voters≤y.Voter)<;>cases seB p.Gr key p.Ct y<;>rfl
  have iS:zcj p key e=(if((e.Kind !=3)||((e.Author !=i64.wrap (i64.wrap (i64.wrap (1+p.Trustees)+p.Mixers)+y.Voter))||decide (p.Voters≤y.Voter)))=true then some (⟨0,[],[],⟨[],[],[]⟩⟩,false)else some (y,seB p.Gr key p.Ct y)):=by
   unfold zcj zhl;rw[h2];simp only[Option.bind_some,Bool.not_true,Bool.false_eq_true,if_false,b2];cases (e.Kind !=3)<;>cases (e.Author !=i64.wrap (i64.wrap (i64.wrap (1+p.Trustees)+p.Mixers)+y.Voter))<;>cases decide (p.Voters≤y.Voter)<;>rfl
  cases hg:((e.Kind !=3)||((e.Author !=i64.wrap (i64.wrap (i64.wrap (1+p.Trustees)+p.Mixers)+y.Voter))||decide (p.Voters≤y.Voter)))with
  |true=>
   rw[hg,if_pos rfl]at iI iS;exact fin iI iS rfl (by simp)
  |false=>
   rw[hg,if_neg (by simp)]at iI iS;cases hs:seB p.Gr key p.Ct y with
   |false=>
    rw[hs,if_neg (by simp)]at iI;rw[hs]at iS;exact fin iI iS rfl (by simp)
   |true=>
    rw[hs,if_pos rfl]at iI;rw[hs]at iS;refine fin iI iS rfl fun _=>⟨rfl,hR.2.2,?_⟩
    simp only[Bool.or_eq_false_iff,decide_eq_false_iff_not]at hg;omega
def zfu(b:Entry→Option Nat):List Entry→Nat→List Int→List Int
 |[],_,l=>l
 |e::E,i,l=>if e.Kind==4 then l else match b e with
  |some v=>zfu b E (i+1) (l.set v (i:Int))
  |none=>zfu b E (i+1) l
theorem zjy{b:Entry→Option Nat}:∀(E:List Entry) (i:Nat) (l:List Int),(zfu b E i l).length=l.length
 |[],_,l=>rfl
 |e::E,i,l=>by
  unfold zfu;split
  ·rfl
  ·split
   ·rw[zjy E];simp
   ·rw[zjy E]
theorem zxw :Rn (zaR l) fun z=>(z=-1∧∀x∈l,0≤x)∨∃i:Nat,z=(i:Int)∧i<l.length∧(l.take i).filter (fun x=>decide (0≤x))=l.take i∧∀h:i<l.length,l[i]<0:=by
 unfold zaR;refine zag (ψ:=fun o=>(o=.inl ()∧∀x∈l,0≤x)∨∃i:Nat,o=.inr (i:Int)∧i<l.length∧(∀x∈l.take i,0≤x)∧∀h:i<l.length,l[i]<0) (zaP (fun i _=>∀x∈l.take i,0≤x) (by simp) ?_ fun s h=>.inl ⟨rfl,by rwa [List.take_length]at h⟩) ?_
 ·intro i s hi h;refine zbm hi (zae (a:=decide (l[i]<0)) rfl (zan (fun h2=>zab (.inr ⟨i,rfl,hi,h,fun _=>of_decide_eq_true h2⟩)) fun h2=>zab fun x hx=>?_));rw[List.take_succ_eq_append_getElem hi]at hx;rcases List.mem_append.1 hx with hx|hx
  ·exact h x hx
  rw[List.mem_singleton.1 hx];have:=of_decide_eq_false h2;omega
 rintro o (⟨rfl,h⟩|⟨i,rfl,h1,h2,h3⟩)
 ·exact zab (.inl ⟨rfl,h⟩)
 exact zab (.inr ⟨i,rfl,h1,List.filter_eq_self.2 fun x hx=>decide_eq_true (h2 x hx),h3⟩)
theorem zEC(hl:l.length≤1000):zaH l=some (l.filter fun x=>decide (0≤x)):=by
 unfold zaH;refine zaj (zag zxw ?_);rintro z (⟨rfl,h⟩|⟨i,rfl,h1,h2,h3⟩)
 ·exact zgt rfl (zab (List.filter_eq_self.2 fun x hx=>decide_eq_true (h x hx)).symm)
 refine zbf (beq_eq_false_iff_ne.2 (by omega)) ?_;have w1:i64.wrap ((i:Int)+1)=((i+1:Nat):Int):=by rw[zak (by omega) (by omega)];rfl
 rw[w1];refine zag (ψ:=fun c=>∃k:Nat,c.2=(k:Int)∧k<l.length∧c.1.length=l.length∧c.1.take k=l.filter fun x=>decide (0≤x)) (zbe (l.length-(i+1)) (fun j s=>∃k:Nat,s.2.1=(k:Int)∧s.2.2=((i+1+j:Nat):Int)∧k<i+1+j∧s.1.length=l.length∧s.1.drop (i+1+j)=l.drop (i+1+j)∧s.1.take k=(l.take (i+1+j)).filter fun x=>decide (0≤x)) ⟨i,rfl,rfl,by omega,rfl,rfl,?_⟩ ?_ ?_) ?_
 ·rw[Nat.add_zero,List.take_succ_eq_append_getElem h1,List.filter_append,h2];have:=h3 h1;rw[List.filter_cons_of_neg (by simp;omega)];simp
 ·rintro j ⟨s,k,m⟩ hj ⟨k',e1,e2,e3,e4,e5,e6⟩;have e1:k=(k':Int):=e1;have e2:m=((i+1+j:Nat):Int):=e2;subst e1;subst e2;have e4:s.length=l.length:=e4;obtain⟨q,hq⟩:∃q,q=i+1+j:=⟨_,rfl⟩
  rw[←hq]at e3 e5 e6⊢;have e5:s.drop q=l.drop q:=e5;have e6:s.take k'=(l.take q).filter fun x=>decide (0≤x):=e6
  have hqs:q<s.length:=by omega
  have hql:q<l.length:=by omega
  have hqe:s[q]=l[q]:=by
   have a1:=List.drop_eq_getElem_cons hqs;have a2:=List.drop_eq_getElem_cons hql;rw[e5,a2]at a1;exact(List.cons.inj a1).1.symm
  have w2:i64.wrap ((q:Int)+1)=((i+1+(j+1):Nat):Int):=by rw[zak (by omega) (by omega)];omega
  have ht:l.take (i+1+(j+1))=l.take q++[l[q]]:=by
   rw[show i+1+(j+1)=q+1 by omega];exact List.take_succ_eq_append_getElem hql
  have hd:∀(s':List Int),s'.drop q=l.drop q→s'.drop (i+1+(j+1))=l.drop (i+1+(j+1)):=fun s' h=>by
   rw[show i+1+(j+1)=q+1 by omega,←List.drop_drop,←List.drop_drop,h]
  refine zgt (decide_eq_true (by dsimp only;omega)) (zag (ψ:=fun c=>∃k2:Nat,c.2=(k2:Int)∧k2<q+1∧c.1.length=l.length∧c.1.drop (i+1+(j+1))=l.drop (i+1+(j+1))∧c.1.take k2=(l.take (i+1+(j+1))).filter fun x=>decide (0≤x)) (zbm (k:=q) hqs (zae (a:=decide (s[q]<0)) rfl (zan (fun h=>?_) fun h=>?_))) ?_)
  ·have h:¬s[q]<0:=by simpa using h
   have hk:k'<s.length:=by omega
   refine zbm (k:=k') hk (zab ⟨k'+1,?_,by omega,by simp;omega,?_,?_⟩)
   ·show i64.wrap ((k':Int)+1)=_;rw[zak (by omega) (by omega)];rfl
   ·refine hd _ ?_;show(s.set (k':Int).toNat s[q]).drop q=l.drop q;rw[Int.toNat_natCast,List.drop_set_of_lt (by omega),e5]
   show(s.set (k':Int).toNat s[q]).take (k'+1)=_;rw[ht,List.filter_append,←e6,List.filter_cons_of_pos (by rw[←hqe];exact decide_eq_true (by omega)),Int.toNat_natCast,List.take_succ_eq_append_getElem (by simp;omega),List.take_set_of_le (by omega),List.getElem_set_self,hqe];rfl
  ·have h:s[q]<0:=by simpa using h
   refine zab ⟨k',rfl,by omega,e4,hd _ e5,?_⟩;show s.take k'=_;rw[ht,List.filter_append,←e6,List.filter_cons_of_neg (by rw[←hqe];simp;omega)];simp
  rintro⟨s2,m2⟩ ⟨k2,g1,g2,g3,g4,g5⟩;have g1:m2=(k2:Int):=g1;subst g1;exact zab ⟨k2,rfl,w2,by omega,g3,g4,g5⟩
 ·rintro⟨s,k,m⟩ ⟨k',e1,e2,e3,e4,e5,e6⟩;have e1:k=(k':Int):=e1;have e2:m=((i+1+(l.length-(i+1)):Nat):Int):=e2;subst e1;subst e2;have e4:s.length=l.length:=e4;have hq:i+1+(l.length-(i+1))=l.length:=by omega
  rw[hq]at e3 e6⊢;refine zbf (decide_eq_false (by dsimp only;omega)) (zab ⟨k',rfl,e3,e4,?_⟩);rw[List.take_length]at e6;exact e6
 rintro⟨s,k⟩ ⟨k',e1,e2,e3,e4⟩;have e1:k=(k':Int):=e1;subst e1;have e3:s.length=l.length:=e3;have e4:s.take k'=_:=e4;dsimp only;rw[Int.toNat_natCast];refine zaq (by omega) (zaq (by omega) (zaq (by omega) (zae rfl (zaq (by omega) (zaq (by simp;omega) (zab ?_))))));rw[List.take_append_of_le_length (by rw[List.length_take];omega),List.take_take,Nat.min_self];exact e4
noncomputable def znL(p:Plan)(key:Int)(b:Board):List Int:=(zfu (zfs p key) b.Entries 0 (List.replicate p.Voters.toNat (-1))).filter fun x=>decide (0≤x)
theorem zp9(f:Entry→Option Nat){E:List Entry}{i:Nat}(hi:i<E.length)(l:List Int):zfu f (E.drop i) i l=if E[i].Kind==4 then l else match f E[i]with
 |some v=>zfu f (E.drop (i+1)) (i+1) (l.set v (i:Int))
 |none=>zfu f (E.drop (i+1)) (i+1) l:=by
 rw[List.drop_eq_getElem_cons hi];rfl
theorem zrq(f:Entry→Option Nat)(E:List Entry)(i:Nat)(l:List Int):zfu f (E.drop E.length) i l=l:=by rw[List.drop_length];rfl
theorem zzq(o:PlC p)(hk:zar p.Gr key=true)(hb:ziB b):zdR p key b=some (znL p key b):=by
 have ov:=o.pv;obtain⟨V,hV⟩:=Int.eq_ofNat_of_zero_le (show 0≤p.Voters by omega)
 have hrep:zbl [(-1)] p.Voters=some (List.replicate p.Voters.toNat (-1)):=by
  unfold zbl;rw[zb9 (by simp;omega)];rfl
 unfold zdR znL;have hlen:=zjy (b:=zfs p key) b.Entries 0 (List.replicate p.Voters.toNat (-1));rw[List.length_replicate]at hlen;have hVn:p.Voters.toNat=V:=by rw[hV,Int.toNat_natCast]
 rw[hVn]at hlen⊢;refine zaj (zae (by rw[hrep,hVn]) (zag (ψ:=(· =zfu (zfs p key) b.Entries 0 (List.replicate V (-1)))) (zaP (fun i s=>s.length=V∧zfu (zfs p key) (b.Entries.drop i) i s=zfu (zfs p key) b.Entries 0 (List.replicate V (-1))) ⟨by simp,rfl⟩ ?_ fun s h=>by rw[←h.2,zrq]) ?_))
 ·rintro i s hi ⟨h1,h2⟩;rw[zp9 _ hi]at h2;obtain⟨x,y,t,b1,_,b3,b4⟩:=zyt o hk (hb.2.2 _ (List.getElem_mem hi)).1;refine zag (ψ:=fun c=>c=.inr (.out (zfu (zfs p key) b.Entries 0 (List.replicate V (-1))))∨∃s2:List Int,c=.inl s2∧s2.length=V∧zfu (zfs p key) (b.Entries.drop (i+1)) (i+1) s2=zfu (zfs p key) b.Entries 0 (List.replicate V (-1))) (zbm hi (zan (fun h=>?_) fun h=>?_)) ?_
  ·rw[h,if_pos rfl]at h2;exact zab (.inl (by rw[←h2]))
  ·rw[h,if_neg (by simp)]at h2;refine zae b1 (zan (fun ht=>?_) fun ht=>?_)
   ·obtain⟨v,e1,_,e3,e4⟩:=b4 ht;rw[e4]at h2;dsimp only;rw[e1];refine zbm (k:=v) (by omega) (zab (.inr ⟨_,rfl,by simp[h1],?_⟩));rw[Int.toNat_natCast];exact h2
   rw[b3 ht]at h2;exact zab (.inr ⟨s,rfl,h1,h2⟩)
  rintro c (rfl|⟨s2,rfl,k⟩)
  ·exact zab rfl
  exact zab k
 rintro _ rfl;exact zae (zEC (by omega)) (zab rfl)
theorem zxA(V:Nat):zat (σ:=(List Int)) (fun i16 s15=>
 (ix s15 i16).bind fun x22=>
 some (.go (s15.set i16.toNat (-1)))) (fun s15=>s15) V 0 (List.replicate V 0)=some (List.replicate V (-1)):=by
 refine zaj (zaP (fun i s=>s=List.replicate i (-1)++List.replicate (V-i) 0∧i≤V) ⟨rfl,by omega⟩ ?_ fun s h=>by rw[h.1,Nat.sub_self];simp);rintro i s hi ⟨rfl,_⟩;refine zbm (by simp;omega) (zab ⟨?_,by omega⟩);have h1:(List.replicate i (-1:Int)).length=i:=List.length_replicate ..;rw[Int.toNat_natCast,show V-i=(V-(i+1))+1 by omega,List.replicate_succ,List.set_append_right _ _ (by rw[h1];exact Nat.le_refl _),h1,Nat.sub_self,List.set_cons_zero,List.replicate_succ'];simp
theorem zw7(hR:R.length≤1000):zat (σ:=(List Int)) (fun i70 s69=>
 (((ix R i70).bind fun x79=>
 if decide (0≤x79)=true then(
 gd ((s69.length+1)*8≤140737488355328∧s69.length+1≤4611686018427387904)<|
 some (s69++[x79]))else(
 some s69):Option ((List Int))).bind fun x78=>
 some (.go x78))) (fun s69=>s69) (R.length) 0 []=some (R.filter fun x=>decide (0≤x)):=by
 refine zaj (zaP (fun i s=>s=(R.take i).filter (fun x=>decide (0≤x))∧s.length≤i) ⟨rfl,by simp⟩ ?_ fun s h=>by rw[h.1,List.take_length]);rintro i s hi ⟨rfl,h1⟩;have ht:=List.take_succ_eq_append_getElem hi;refine zag (ψ:=fun c=>c=(R.take (i+1)).filter (fun x=>decide (0≤x))∧c.length≤i+1) (zbm hi (zan (fun h=>zaq (by omega) (zab ⟨?_,by simp;omega⟩)) fun h=>zab ⟨?_,by omega⟩)) fun c k=>zab k
 ·rw[ht,List.filter_append,List.filter_cons,if_pos h];rfl
 rw[ht,List.filter_append,List.filter_cons,if_neg (by rw[h];simp)];simp
theorem zyd(o:PlC p)(key:Int)(b:Board):(znL p key b).length≤12:=by
 have ov:=o.pv;unfold znL;refine Nat.le_trans (List.length_filter_le _ _) ?_;rw[zjy,List.length_replicate];omega
theorem zAh(h:zd6 p=some true):PlC p:=by
 obtain⟨b,s1,_,s3⟩:=zvw p;rw[h]at s1;cases s1;obtain⟨g,c,_,t,m,v,s⟩:=s3 rfl;exact⟨g,c,fun hf=>zDw (zv4 h) g c hf,by omega,⟨t.1,t.2.1⟩,m,v,s⟩
theorem zAl(o:PlC p)(hb:ziB b){J:List Int}(hJ:ze6 p=some J)(hk0:ix J 0=some key)(hk:zar p.Gr key=true):zfd p b=some (znL p key b):=by
 have ov:=o.pv;obtain⟨V,hV⟩:=Int.eq_ofNat_of_zero_le (show 0≤p.Voters by omega);have hVn:p.Voters.toNat=V:=by rw[hV,Int.toNat_natCast]
 have hlen:=zjy (b:=zfs p key) b.Entries 0 (List.replicate V (-1));rw[List.length_replicate]at hlen;unfold zfd znL;rw[hVn];refine zaj (zaq (by omega) (zae rfl (zae (by rw[List.length_replicate];exact zxA V) (zae hJ (zae hk0 (zag (ψ:=(· =zfu (zfs p key) b.Entries 0 (List.replicate V (-1)))) (zaP (fun i s=>s.length=V∧zfu (zfs p key) (b.Entries.drop i) i s=zfu (zfs p key) b.Entries 0 (List.replicate V (-1))) ⟨by simp,rfl⟩ ?_ fun s h=>by rw[←h.2,zrq]) ?_))))))
 ·rintro i s hi ⟨h1,h2⟩;rw[zp9 _ hi]at h2;obtain⟨x,y,t,_,b2,b3,b4⟩:=zyt o hk (hb.2.2 _ (List.getElem_mem hi)).1;refine zag (ψ:=fun c=>c=.inr (.out (zfu (zfs p key) b.Entries 0 (List.replicate V (-1))))∨∃s2:List Int,c=.inl s2∧s2.length=V∧zfu (zfs p key) (b.Entries.drop (i+1)) (i+1) s2=zfu (zfs p key) b.Entries 0 (List.replicate V (-1))) (zbm hi (zan (fun h=>?_) fun h=>?_)) ?_
  ·rw[h,if_pos rfl]at h2;exact zab (.inl (by rw[←h2]))
  ·rw[h,if_neg (by simp)]at h2;refine zae b2 (zan (fun ht=>?_) fun ht=>?_)
   ·obtain⟨v,_,e2,e3,e4⟩:=b4 ht;rw[e4]at h2;dsimp only;rw[e2];refine zbm (k:=v) (by omega) (zab (.inr ⟨_,rfl,by simp[h1],?_⟩));rw[Int.toNat_natCast];exact h2
   rw[b3 ht]at h2;exact zab (.inr ⟨s,rfl,h1,h2⟩)
  rintro c (rfl|⟨s2,rfl,k⟩)
  ·exact zab rfl
  exact zab k
 rintro _ rfl;exact zae (zw7 (by omega)) (zab rfl)
theorem zKV(p:Plan)(hb:ziB b):∃l t,zb0 p b=some (l,t)∧zby p b=some (l,t)∧l.length≤12:=by
 obtain⟨t,s1,s2,_⟩:=zvw p;have hau:zfk p=some (i64.wrap (i64.wrap (i64.wrap (1+p.Trustees)+p.Mixers)+p.Voters)):=rfl
 have bad:zem p b=some false→zc7 p b=some false→∃l t,zb0 p b=some (l,t)∧zby p b=some (l,t)∧l.length≤12:=fun h1 h2=>by
  refine⟨[],false,?_,?_,by simp⟩
  ·unfold zb0;rw[h1];rfl
  ·unfold zby;rw[h2];rfl
 cases t with
 |false=>
  refine bad ?_ ?_
  ·unfold zem;rw[s1];rfl
  ·unfold zc7;rw[s2];rfl
 |true=>
  have o:=zAh s1;obtain⟨n1,n2⟩:=zzg o.pg hb
  have e1:zem p b=some (zme p.Gr b&&((b.Keys.length:Int)==i64.wrap (i64.wrap (i64.wrap (1+p.Trustees)+p.Mixers)+p.Voters))):=by
   unfold zem;rw[s1,n1,hau];cases zme p.Gr b<;>rfl
  have e2:zc7 p b=some (zme p.Gr b&&((b.Keys.length:Int)==i64.wrap (i64.wrap (i64.wrap (1+p.Trustees)+p.Mixers)+p.Voters))):=by
   unfold zc7;rw[s2,n2,zrC,hau];simp only[Option.bind_some,if_true];cases ((b.Keys.length:Int)==i64.wrap (i64.wrap (i64.wrap (1+p.Trustees)+p.Mixers)+p.Voters))<;>cases zme p.Gr b<;>rfl
  cases hB:(zme p.Gr b&&((b.Keys.length:Int)==i64.wrap (i64.wrap (i64.wrap (1+p.Trustees)+p.Mixers)+p.Voters)))with
  |false=>exact bad (by rw[e1,hB]) (by rw[e2,hB])
  |true=>
   rw[hB]at e1 e2;have ot:=o.pt;have oh:=o.ph;obtain⟨T,hT⟩:=Int.eq_ofNat_of_zero_le (show 0≤p.Trustees by omega);obtain⟨h,hh⟩:=Int.eq_ofNat_of_zero_le (show 0≤p.Threshold by omega);have c1:=zul o.pg o.ps hT hh (by omega) (by omega) (by omega);have c2:=zyY o.pg o.ps hT hh (by omega) (by omega) (by omega);have hl:=(zmd o.pg h T).1;have ha:=zvX o.pg h T;have h0:0<(zb5 p h T).length:=by omega
   have hk:zar p.Gr (zb5 p h T)[0]=true:=List.all_eq_true.1 ha _ (List.getElem_mem h0);have hx:ix (zb5 p h T) 0=some (zb5 p h T)[0]:=za3 (k:=0) h0;refine⟨znL p (zb5 p h T)[0] b,true,?_,?_,zyd o _ _⟩
   ·unfold zb0;rw[e1,Option.bind_some,if_neg (by simp),zAl o hb c2 hx hk];rfl
   ·unfold zby;rw[e2,Option.bind_some,if_neg (by simp),c1,Option.bind_some,hx,Option.bind_some,zzq o hk hb];rfl
theorem zCv(p:Plan)(b:Board)(hb:ziB b):zbZ p b=some true:=by
 obtain⟨l,t,s1,s2,s3⟩:=zKV p hb;obtain⟨z,z1,z2,z3⟩:=zLo hb;obtain⟨r,r1,r2,r3⟩:=zjd l 1 (by omega) (by omega) (by omega);have h1:=zyR r 1 (by omega) (by omega) (by omega) r3;have e1:zbG l l=some true:=zis (by omega);have tp:ze7 p=some p:=rfl;unfold zbZ;refine zza (zFk hb (by omega) (by omega)) fun n1 a1 b1=>?_
 have g1:¬z<0:=by omega
 have g2:¬1+(l.length:Int)<0:=by omega
 simp only[tp,zIu hb,s1,s2,e1,zId hb,z1,r1,h1,r2,Option.bind_some];simp[g1,g2]
end Go.Pm
