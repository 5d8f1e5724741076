/-
  FnExactCountedEntries: plain laws.
  No condition.
-/
import Derived.Test.YtplemekcclpaoaaGreatDoorY44
namespace Go.Pm
open Go.Am IntKind
set_option linter.unusedVariables false
set_option linter.unusedSimpArgs false
noncomputable def seB(gr:Group)(key:Int)(ct:Contest)(x:Sealed):Bool:= !znV gr ct x&&
 if zew ct=true then(List.range x.Ciphers.length).all (fun i=>zkf gr (zg7 x.Voter) (stV gr key (x.Ciphers.getD i ⟨0,0⟩) 0 ((zg9 ct).toNat+1)) (x.Proofs.getD i ⟨[],[],[]⟩))&&zkf gr (zg7 x.Voter) (stV gr key (zm0 gr x.Ciphers) ct.Least (ct.Most-ct.Least+1).toNat) x.Sum
 else zpb x.Sum&&znt gr (zg7 x.Voter) [[gr.G]] [(x.Ciphers.getD 0 ⟨0,0⟩).A] (x.Proofs.getD 0 ⟨[],[],[]⟩)
def seN(x:Sealed):Prop:=(∀p∈x.Proofs,p.Commits.length≤1048576)∧x.Sum.Commits.length≤1048576∧x.Sum.Challenges.length≤1048576∧x.Sum.Responses.length≤1048576
section
variable {gr:Group}
variable{ct:Contest}{key:Int}{x:Sealed}
theorem zEp(k:OkG gr){c:Cipher}(h:zcE gr c=true):c=⟨pg gr (dl gr c.A),pg gr (dl gr c.B)⟩:=by
 simp only[zcE,Bool.and_eq_true]at h;obtain⟨a,b⟩:=c;rw[←zmg k h.1,←zmg k h.2]
theorem zgn{α:Type}{l:List α}{d:α}{i:Nat}(hi:i<l.length):l.getD i d=l[i]:=by simp[List.getD,hi]
theorem zJH(k:OkG gr)(a b:Int):zcE gr ⟨pg gr a,pg gr b⟩=true:=by
 show(zaq gr (pg gr a)&&zaq gr (pg gr b))=true;rw[zq6 k,zq6 k];rfl
theorem zBv(k:OkG gr){l:List Cipher}(h:l.all (zcE gr)=true):zcd gr l=some (zm0 gr l):=by
 unfold zcd
 refine zal (zae (zy8 (σ:=Int×Int) (γ:=Int×Int) (n:=l.length) (stop:=fun s13=>(s13.1,s13.2)) (s0:=(1,1)) (fun i=>(pg gr (smL (fun i=>dl gr (l.getD i ⟨0,0⟩).A) i),pg gr (smL (fun i=>dl gr (l.getD i ⟨0,0⟩).B) i))) (by
  show _=(pg gr 0,pg gr 0)
  rw[zA6 k]) fun i hi=>?_) (zab rfl))
 have hc:=zEp k (List.all_eq_true.1 h _ (List.getElem_mem hi));refine zbm hi ?_;rw[show smL (fun i=>dl gr (l.getD i ⟨0,0⟩).A) (i+1)=smL (fun i=>dl gr (l.getD i ⟨0,0⟩).A) i+dl gr (l.getD i ⟨0,0⟩).A from rfl,show smL (fun i=>dl gr (l.getD i ⟨0,0⟩).B) (i+1)=smL (fun i=>dl gr (l.getD i ⟨0,0⟩).B) i+dl gr (l.getD i ⟨0,0⟩).B from rfl,zgn hi];generalize l[i]=c at hc⊢
 exact zae (a:=⟨pg gr (smL (fun i=>dl gr (l.getD i ⟨0,0⟩).A) i+dl gr c.A),pg gr (smL (fun i=>dl gr (l.getD i ⟨0,0⟩).B) i+dl gr c.B)⟩) (by
  conv=>lhs;rw[hc]
  exact zDV k _ _ _ _) (zab rfl)
theorem zBq(k:OkG gr){l:List Cipher}(h:l.all (zcE gr)=true):zgf gr l=some (zm0 gr l):=by
 unfold zgf
 refine zal (zae (zy8 (σ:=Int×Int) (γ:=Int×Int) (n:=l.length) (stop:=fun s14=>(s14.1,s14.2)) (s0:=(1,1)) (fun i=>(pg gr (smL (fun i=>dl gr (l.getD i ⟨0,0⟩).A) i),pg gr (smL (fun i=>dl gr (l.getD i ⟨0,0⟩).B) i))) (by
  show _=(pg gr 0,pg gr 0)
  rw[zA6 k]) fun i hi=>?_) (zab rfl))
 have hc:=List.all_eq_true.1 h _ (List.getElem_mem hi);simp only[zcE,Bool.and_eq_true]at hc;refine zbm hi ?_;rw[show smL (fun i=>dl gr (l.getD i ⟨0,0⟩).A) (i+1)=smL (fun i=>dl gr (l.getD i ⟨0,0⟩).A) i+dl gr (l.getD i ⟨0,0⟩).A from rfl,show smL (fun i=>dl gr (l.getD i ⟨0,0⟩).B) (i+1)=smL (fun i=>dl gr (l.getD i ⟨0,0⟩).B) i+dl gr (l.getD i ⟨0,0⟩).B from rfl,zgn hi];refine zae (m2S k (zgR k gr.G _) (ze9 k hc.1)) (zae (m2S k (zgR k gr.G _) (ze9 k hc.2)) (zab ?_));rw[←zgC k,←zgC k,←zmg k hc.1,←zmg k hc.2]
theorem zmN(k:OkG gr)(l:List Cipher):zcE gr (zm0 gr l)=true:=zJH k _ _
theorem zqX(k:OkG gr)(hk:zaq gr key=true){c:Cipher}(hc:zcE gr c=true){lo:Int}{n:Nat}(hn:1≤n∧n≤8):StOk gr (stV gr key c lo n):=by
 have hl:=zxe gr key c lo n;refine⟨by omega,fun e he=>?_⟩;unfold stV at he;obtain⟨i,_,rfl⟩:=List.mem_map.1 he;have hcc:=hc;simp only[zcE,Bool.and_eq_true]at hcc;refine⟨zgT k,hcc.1,hk,?_⟩;show zaq gr (zc4 gr [c.B,pg gr _])=true;rw[zmg k hcc.2,zgC k];exact zq6 k _
theorem zEA(ct:Contest):zdF ct=some (wdt ct):=by
 unfold zdF wdt;rw[zmV,show(ct.Kind==1||ct.Kind==2)=zew ct from rfl,Option.bind_some];cases zew ct<;>rfl
theorem zBA(ct:Contest):zfl ct=some (wdt ct):=by
 unfold zfl wdt;rw[zkw,show(ct.Kind==1||ct.Kind==2)=zew ct from rfl,Option.bind_some];cases zew ct<;>rfl
theorem zEV(p:Proof):zdy p=some (zpb p):=by
 unfold zdy;rw[ziq,ziq];rfl
theorem zAa{p:Proof}(h1:p.Commits.length≤1048576)(h2:p.Challenges.length≤1048576)(h3:p.Responses.length≤1048576):zgt p=some (zpb p):=by
 unfold zgt zpb;rw[zaj (n:=(p.Commits.length:Int)+(p.Challenges.length:Int)) (by omega) (by omega),zaj (n:=(p.Commits.length:Int)+(p.Challenges.length:Int)+(p.Responses.length:Int)) (by omega) (by omega)];congr 1;rw[Bool.eq_iff_iff];simp only[Bool.and_eq_true,beq_iff_eq];omega
theorem zwX(h:znV gr ct x=false):(0≤x.Voter∧x.Voter≤999999)∧(x.Ciphers.length:Int)=wdt ct∧(x.Proofs.length:Int)=wdt ct∧x.Ciphers.all (zcE gr)=true:=by
 unfold znV at h;simp only[Bool.or_eq_false_iff,bne_eq_false_iff_eq,Bool.not_eq_false',Bool.and_eq_true]at h;exact⟨ze7.1 h.1,h.2.1,h.2.2.1,h.2.2.2.2⟩
theorem zBJ(k:OkG gr)(hk:zaq gr key=true)(kc:OkC ct)(hgd:zew ct=true→ct.Most-ct.Least<8)(hx:seN x):zds gr key ct x=some (seB gr key ct x):=by
 unfold zds seB;simp only[zEA,zoW,zsm k,Option.bind_some,zeG];rw[show(!inB 0 999999 x.Voter||(((x.Ciphers.length:Int) !=wdt ct)||(((x.Proofs.length:Int) !=wdt ct)|| !(decide (x.Ciphers.length≤24)&&x.Ciphers.all (zcE gr)))))=znV gr ct x from rfl];cases hg:znV gr ct x with
 |true=>rfl
 |false=>
  obtain⟨hv,hn,hm,hc⟩:=zwX hg;have hlb:=zwd hv.1 hv.2;rw[if_neg (by simp),zAC hv.1 hv.2,Option.bind_some,zmV,show(ct.Kind==1||ct.Kind==2)=zew ct from rfl,Option.bind_some];cases hf:zew ct with
  |false=>
   unfold wdt at hn hm;rw[hf]at hn hm;have hn:(x.Ciphers.length:Int)=1:=hn;have hm:(x.Proofs.length:Int)=1:=hm;have hc0:=List.all_eq_true.1 hc _ (List.getElem_mem (show 0<x.Ciphers.length by omega));have hca:=hc0;simp only[zcE,Bool.and_eq_true]at hca;have e1:ix x.Ciphers 0=some (x.Ciphers.getD 0 ⟨0,0⟩):=by rw[show(0:Int)=((0:Nat):Int)from rfl,zaY (show 0<x.Ciphers.length by omega),zgn (show 0<x.Ciphers.length by omega)]
   have e2:ix x.Proofs 0=some (x.Proofs.getD 0 ⟨[],[],[]⟩):=by rw[show(0:Int)=((0:Nat):Int)from rfl,zaY (show 0<x.Proofs.length by omega),zgn (show 0<x.Proofs.length by omega)]
   have hv:=zqe k (s:=zg7 x.Voter) (by omega) (znK (zgT k)) (im:=[(x.Ciphers.getD 0 ⟨0,0⟩).A]) rfl (by rw[zgn (show 0<x.Ciphers.length by omega)];simp[hca.1]) (p:=x.Proofs.getD 0 ⟨[],[],[]⟩) (by rw[zgn (show 0<x.Proofs.length by omega)];exact hx.1 _ (List.getElem_mem _));rw[if_pos (show(!false)=true from rfl),zEV,Option.bind_some,e1,e2,Option.bind_some,Option.bind_some,hv,Option.bind_some];cases zpb x.Sum<;>rfl
  |true=>
   obtain⟨f1,f2,f3,f4⟩:=zpf kc hf;have hgd:=hgd hf;have hDq:ct.Options*zg9 ct≤8*5:=Int.mul_le_mul (by omega) (by omega) (by omega) (by omega);have hmo:=zA9 (ct:=ct) (.inl hf);rw[if_pos hf]at hmo
   have hk2:(zcd gr x.Ciphers).bind (fun z42=>(zbC gr key z42 ct.Least ct.Most).bind fun z43=>(zbq gr (zg7 x.Voter) z43 x.Sum).bind fun z44=>some z44)=some (zkf gr (zg7 x.Voter) (stV gr key (zm0 gr x.Ciphers) ct.Least (ct.Most-ct.Least+1).toNat) x.Sum):=by
    rw[zBv k hc,Option.bind_some,zyU k (zmN k _) (by omega) (n:=(ct.Most-ct.Least+1).toNat) (by omega) (by omega),Option.bind_some,zty k (by omega) (zqX k hk (zmN k _) (by omega))];rfl
   rw[if_neg (by simp),hk2,zjJ (fun i=>zkf gr (zg7 x.Voter) (stV gr key (x.Ciphers.getD i ⟨0,0⟩) 0 ((zg9 ct).toNat+1)) (x.Proofs.getD i ⟨[],[],[]⟩)) false _ fun i hi=>?_]
   ·cases (List.range x.Ciphers.length).all _<;>rfl
   ·have hci:=List.all_eq_true.1 hc _ (List.getElem_mem hi);have hip:i<x.Proofs.length:=by omega
    rw[zaY hi,Option.bind_some,zaY hip,Option.bind_some,hmo,Option.bind_some,zyU k hci (by omega) (n:=(zg9 ct).toNat+1) (by omega) (by omega),Option.bind_some,zty k (by omega) (zqX k hk hci (by omega)),Option.bind_some,zuw,zgn hi,zgn hip]
theorem zBp(k:OkG gr)(hk:zaq gr key=true)(kc:OkC ct)(hgd:zew ct=true→ct.Most-ct.Least<8)(hx:seN x):zfG gr key ct x=some (seB gr key ct x):=by
 unfold zfG seB;simp only[zBA,zqJ,zzo k,Option.bind_some,zeG];rw[show(!inB 0 999999 x.Voter||(((x.Ciphers.length:Int) !=wdt ct)||(((x.Proofs.length:Int) !=wdt ct)|| !(decide (x.Ciphers.length≤24)&&x.Ciphers.all (zcE gr)))))=znV gr ct x from rfl];cases hg:znV gr ct x with
 |true=>rfl
 |false=>
  obtain⟨hv,hn,hm,hc⟩:=zwX hg;have hlb:=zwd hv.1 hv.2;rw[if_neg (by simp),zAK hv.1 hv.2,Option.bind_some,zkw,show(ct.Kind==1||ct.Kind==2)=zew ct from rfl,Option.bind_some];cases hf:zew ct with
  |false=>
   unfold wdt at hn hm;rw[hf]at hn hm;have hn:(x.Ciphers.length:Int)=1:=hn;have hm:(x.Proofs.length:Int)=1:=hm;have hc0:=List.all_eq_true.1 hc _ (List.getElem_mem (show 0<x.Ciphers.length by omega));have hca:=hc0;simp only[zcE,Bool.and_eq_true]at hca;have e1:ix x.Ciphers 0=some (x.Ciphers.getD 0 ⟨0,0⟩):=by rw[show(0:Int)=((0:Nat):Int)from rfl,zaY (show 0<x.Ciphers.length by omega),zgn (show 0<x.Ciphers.length by omega)]
   have e2:ix x.Proofs 0=some (x.Proofs.getD 0 ⟨[],[],[]⟩):=by rw[show(0:Int)=((0:Nat):Int)from rfl,zaY (show 0<x.Proofs.length by omega),zgn (show 0<x.Proofs.length by omega)]
   have hv:=zqk k (s:=zg7 x.Voter) (by omega) (znK (zgT k)) (im:=[(x.Ciphers.getD 0 ⟨0,0⟩).A]) rfl (by rw[zgn (show 0<x.Ciphers.length by omega)];simp[hca.1]) (p:=x.Proofs.getD 0 ⟨[],[],[]⟩) (by rw[zgn (show 0<x.Proofs.length by omega)];exact hx.1 _ (List.getElem_mem _));rw[if_pos (show(!false)=true from rfl),e1,e2,Option.bind_some,Option.bind_some,hv,Option.bind_some,zAa hx.2.1 hx.2.2.1 hx.2.2.2];cases zpb x.Sum<;>cases znt gr (zg7 x.Voter) [[gr.G]] [(x.Ciphers.getD 0 ⟨0,0⟩).A] (x.Proofs.getD 0 ⟨[],[],[]⟩)<;>rfl
  |true=>
   obtain⟨f1,f2,f3,f4⟩:=zpf kc hf;have hgd:=hgd hf;have hDq:ct.Options*zg9 ct≤8*5:=Int.mul_le_mul (by omega) (by omega) (by omega) (by omega)
   have hk2:(zgf gr x.Ciphers).bind (fun z42=>(zcA gr key z42 ct.Least ct.Most).bind fun z43=>(zcP gr (zg7 x.Voter) z43 x.Sum).bind fun z44=>some z44)=some (zkf gr (zg7 x.Voter) (stV gr key (zm0 gr x.Ciphers) ct.Least (ct.Most-ct.Least+1).toNat) x.Sum):=by
    rw[zBq k hc,Option.bind_some,zyH k (zmN k _) (by omega) (n:=(ct.Most-ct.Least+1).toNat) (by omega) (by omega),Option.bind_some,ztp k (by omega) (zqX k hk (zmN k _) (by omega))];rfl
   rw[if_neg (by simp),hk2,zjJ (fun i=>zkf gr (zg7 x.Voter) (stV gr key (x.Ciphers.getD i ⟨0,0⟩) 0 ((zg9 ct).toNat+1)) (x.Proofs.getD i ⟨[],[],[]⟩)) false _ fun i hi=>?_]
   ·cases (List.range x.Ciphers.length).all _<;>rfl
   ·have hci:=List.all_eq_true.1 hc _ (List.getElem_mem hi);have hip:i<x.Proofs.length:=by omega
    rw[zaY hi,Option.bind_some,zaY hip,Option.bind_some,zBI,Option.bind_some,zyH k hci (by omega) (n:=(zg9 ct).toNat+1) (by omega) (by omega),Option.bind_some,ztp k (by omega) (zqX k hk hci (by omega)),Option.bind_some,zuw,zgn hi,zgn hip]
end
variable{L:List (List Int)}{R l:List Int}{b:Board}{key:Int}{p:Plan}{x:Sealed}
theorem zmM(a:Int)(R:List Int)(b:Bool):zaN (a::R) b=some (a,(R,b)):=by
 unfold zaN;rw[if_neg (by simp;omega)];refine zal (zae (a:=a) rfl (zas (by simp) (zab ?_)));rw[List.take_length];rfl
theorem zqV{p:List Int}(hp:p.length≤1000)(hR:R.length≤1000):zaD (zaF p++R) true=some (p,(R,true)):=by
 unfold zaD;have e:zaF p++R=(p.length:Int)::(p++R):=rfl;rw[e,zmM,Option.bind_some,zd8];have hl:(p++R).length=p.length+R.length:=List.length_append;have h1:(decide (0≤(p.length:Int))&&decide ((p.length:Int)≤((p++R).length:Int)))=true:=by simp;omega
 dsimp only;rw[h1];refine zal (zae rfl (zbd rfl (zas (by omega) (zas (by rw[Int.toNat_natCast];omega) (zae (a:=p) ?_ (zas (by omega) (zas (by rw[Int.toNat_natCast];omega) (zab ?_))))))))
 ·unfold zc5;rw[Int.toNat_natCast,List.drop_zero,List.take_left,zbI (by omega)]
 rw[Int.toNat_natCast,List.take_length,List.drop_left]
theorem zyE:zbk [] true=some true:=rfl
theorem zFa(h:l.length≤400)(hd:l.all zaX=true):za5 l=true:=by unfold za5;rw[hd,decide_eq_true (by omega)];rfl
theorem zA7(h:(zbT L).length≤400)(hd:(zbT L).all zaX=true):zbW (zbT L)=some (L,true):=by
 have hn:(L.flatMap zaF).length+1≤400:=by simpa[zbT]using h
 have hlen:L.length≤(L.flatMap zaF).length:=by
  clear h hd hn;induction L with
  |nil=>simp
  |cons p L ih=>rw[List.flatMap_cons,List.length_append,List.length_cons];show L.length+1≤(p.length+1)+(L.flatMap zaF).length;omega
 unfold zbW;rw[zfW,zFa h hd,Option.bind_some];have e:zbT L=(L.length:Int)::L.flatMap zaF:=rfl
 have hmin:(if((zbT L).length:Int)<(L.length:Int)then((zbT L).length:Int)else(L.length:Int))=(L.length:Int):=by
  rw[if_neg (by rw[e,List.length_cons];omega)]
 have hw:zax (σ:=(List Int×Bool)×(List (List Int))×Int) (fun s20=>
  if decide (s20.2.2<(L.length:Int))=true then(
  (zaD s20.1.1 s20.1.2).bind fun z26=>
  gd ((s20.2.1.length+1)*24≤140737488355328∧s20.2.1.length+1≤4611686018427387904)<|
  some (.go ((z26.2.1,z26.2.2),s20.2.1++[z26.1],i64.wrap (s20.2.2+1))))else(
  some (.out ((s20.1.1,s20.1.2),s20.2.1)))) ((L.flatMap zaF,true),[],0)=some (([],true),L):=by
  refine zal (zbi L.length (fun i s=>s=(((L.drop i).flatMap zaF,true),L.take i,(i:Int))∧i≤L.length) ⟨rfl,by omega⟩ ?_ ?_)
  ·rintro i s hi ⟨rfl,_⟩;have hd2:(L.drop i).flatMap zaF=zaF L[i]++(L.drop (i+1)).flatMap zaF:=by rw[List.drop_eq_getElem_cons hi,List.flatMap_cons]
   have hle:((L.drop i).flatMap zaF).length≤(L.flatMap zaF).length:=by
    have h:(L.take i).flatMap zaF++(L.drop i).flatMap zaF=L.flatMap zaF:=by rw[←List.flatMap_append,List.take_append_drop]
    rw[←h,List.length_append];omega
   rw[hd2,List.length_append]at hle;have hat:=zqK hi;refine zgA (by simpa using hi) (zae (a:=(L[i],((L.drop (i+1)).flatMap zaF,true))) (by dsimp only;rw[hd2];exact zqV (by omega) (by omega)) (zas (by rw[List.length_take];omega) (zab ⟨?_,by omega⟩)));dsimp only;rw[List.take_succ_eq_append_getElem hi,zaj (n:=(i:Int)+1) (by omega) (by omega)];rfl
  ·rintro s ⟨rfl,_⟩;refine zbd (by simp) (zab ?_);show((((L.drop L.length).flatMap zaF,true),L.take L.length):(List Int×Bool)×List (List Int))=_;rw[List.drop_length,List.take_length];rfl
 refine zal (zae (a:=((L.length:Int),(L.flatMap zaF,true))) (by rw[e];exact zmM _ _ _) (zae (a:=(([],true),L)) (by rw[hmin];exact hw) (zae (zzy h hd) (zag (ψ:=(· =false)) (zae zyE (zbd rfl (zbd rfl (zae (zjq _ _) (zab (by simp)))))) ?_))));rintro _ rfl;exact zbd rfl (zab rfl)
theorem zbP :za5 l=true↔l.length≤400∧l.all zaX=true:=by
 unfold za5;rw[Bool.and_eq_true,decide_eq_true_eq];constructor<;>rintro⟨a,b⟩<;>exact⟨by omega,b⟩
theorem zkP(l:List Int):zdJ l=some (za5 l):=by
 unfold zdJ;refine zal (zag (ψ:=(· =za5 l)) (zan (fun h=>?_) fun h=>?_) (fun _ e=>zab e))
 ·exact zae (zpH _ _ _) (zab (by unfold za5;rw[h];rfl))
 exact zab (by unfold za5;rw[h];rfl)
theorem l4t{a:Int}{r:List Int}(h0:0≤a)(h1:a≤r.length)(hl:r.length≤100000):zci (a::r)=some (r.take a.toNat,r.drop a.toNat,true):=by
 obtain⟨n,rfl⟩:=Int.eq_ofNat_of_zero_le h0;have w:i64.wrap ((n:Int)+1)=((n+1:Nat):Int):=by rw[zaj (by omega) (by omega)];omega
 have hlen:((n:Int)::r).length=r.length+1:=rfl;unfold zci;refine zal (zag (ψ:=(· =false)) (zbd (by rw[hlen];exact beq_eq_false_iff_ne.2 (by omega)) (zae (a:=(n:Int)) rfl (zbd (decide_eq_false (by omega)) (zab (decide_eq_false (by rw[hlen];omega)))))) ?_);rintro _ rfl;refine zbd rfl (zae (a:=(n:Int)) rfl ?_);rw[w,Int.toNat_natCast];refine zas (by omega) (zas (by rw[hlen];omega) (zas (by omega) (zas (by rw[hlen];omega) (zae (zzW (by rw[List.length_drop,List.length_take,hlen];omega)) (zab ?_)))));rw[List.take_length,Int.toNat_natCast];rfl
theorem zqO(hl:l.length≤400):Rn (zci l) fun y=>(y.2.2=true→l=zaF y.1++y.2.1)∧y.2.1.length≤l.length:=by
 cases l with
 |nil=>exact⟨([],[],false),rfl,by simp,by simp⟩
 |cons a r=>
  have hlen:(a::r).length=r.length+1:=rfl;by_cases h:0≤a∧a≤r.length
  ·refine⟨_,l4t h.1 h.2 (by omega),fun _=>?_,by rw[List.length_drop,hlen];omega⟩;show a::r=((r.take a.toNat).length:Int)::(r.take a.toNat++r.drop a.toNat);rw[List.take_append_drop,List.length_take,Nat.min_eq_left (by omega),Int.toNat_of_nonneg h.1]
  ·unfold zci;refine zag (ψ:=(· =true)) (zbd (by rw[hlen];exact beq_eq_false_iff_ne.2 (by omega)) (zae (a:=a) rfl (zan (fun h=>zab rfl) fun h2=>zab (decide_eq_true (by rw[hlen];have:=of_decide_eq_false h2;omega))))) ?_;rintro _ rfl;exact zgA rfl (zab ⟨by simp,by simp⟩)
theorem zqT{p:List Int}(hp:p.length≤1000)(hR:R.length≤1000):zci (zaF p++R)=some (p,R,true):=by
 have e:zaF p++R=(p.length:Int)::(p++R):=rfl;have hl:(p++R).length=p.length+R.length:=List.length_append;rw[e,l4t (by omega) (by omega) (by omega),Int.toNat_natCast,List.take_left,List.drop_left]
theorem zqH(L:List (List Int)):L.length≤(L.flatMap zaF).length:=by
 induction L with
 |nil=>simp
 |cons p L ih=>rw[List.flatMap_cons,List.length_append,List.length_cons];show L.length+1≤(p.length+1)+(L.flatMap zaF).length;omega
theorem zo8(h:za5 (zbT L)=true){p:List Int}(hp:p∈L):za5 p=true:=by
 obtain⟨h1,h2⟩:=zbP.1 h;unfold zbT at h1 h2;rw[List.all_cons,Bool.and_eq_true,List.all_flatMap]at h2;have h3:=List.all_eq_true.1 h2.2 p hp;unfold zaF at h3;rw[List.all_cons,Bool.and_eq_true]at h3;obtain⟨i,hi,rfl⟩:=List.mem_iff_getElem.1 hp;have:=zqK hi;rw[List.length_cons]at h1;exact zbP.2 ⟨by omega,h3.2⟩
theorem zEN(l:List Int):Rn (zez l) fun y=>y.2=true→za5 l=true∧l=zbT y.1:=by
 unfold zez;refine zag (ψ:=fun b=>b=false→za5 l=true∧∃a R,l=a::R∧a≤l.length) (zae (zkP l) (zan (fun h=>zab (by simp)) fun h=>?_)) ?_
 ·cases l with
  |nil=>exact zgA rfl (zab (by simp))
  |cons a R=>exact zan (fun h2=>zab (by simp)) fun h2=>zae (a:=a) rfl (zab fun e=>⟨by simpa using h,a,R,rfl,by have:=of_decide_eq_false e;omega⟩)
 intro b hb;refine zan (fun h=>zab (by simp)) fun h=>?_
 obtain⟨hr,a,R,rfl,ha⟩:=hb h;obtain⟨hl,hd⟩:=zbP.1 hr;rw[List.all_cons,Bool.and_eq_true]at hd;have ha0:=zbz.1 hd.1;have hlen:(a::R).length=R.length+1:=rfl;obtain⟨n,rfl⟩:=Int.eq_ofNat_of_zero_le ha0.1;refine zas (by omega) ?_;refine zag (ψ:=fun c=>(∃o r,c=.inl (o,r)∧o.length=n∧R=o.flatMap zaF++r)∨∃y,c=.inr (y,false)) (zbi n (fun i s=>s.2.2=(i:Int)∧s.1.length=i∧R=s.1.flatMap zaF++s.2.1) ⟨rfl,rfl,by rw[List.take_length];rfl⟩ ?_ ?_) ?_
 ·rintro i ⟨o,r,k⟩ hi ⟨e1,h2,h3⟩;have e1:k=(i:Int):=e1;subst e1;have h2:o.length=i:=h2;have h3:R=o.flatMap zaF++r:=h3;have hrl:r.length≤R.length:=by rw[h3,List.length_append];omega
  refine zae (a:=(n:Int)) rfl (zgA (decide_eq_true (by dsimp only;omega)) (zag (zqO (l:=r) (by omega)) ?_));rintro y ⟨y1,_⟩;refine zan (fun h=>zab (.inr ⟨_,rfl⟩)) fun h=>zas (by dsimp only;omega) (zab ⟨?_,?_,?_⟩)
  ·show i64.wrap ((i:Int)+1)=_;rw[zaj (by omega) (by omega)];rfl
  ·show(o++[y.1]).length=i+1;rw[List.length_append,h2];rfl
  have hy:=y1 (by simpa using h);show R=(o++[y.1]).flatMap zaF++y.2.1;rw[h3,hy,List.flatMap_append,List.append_assoc];simp
 ·rintro⟨o,r,k⟩ ⟨e1,h2,h3⟩;have e1:k=(n:Int):=e1;subst e1;exact zae (a:=(n:Int)) rfl (zbd (decide_eq_false (by dsimp only;omega)) (zab (.inl ⟨o,r,rfl,h2,h3⟩)))
 rintro _ (⟨o,r,rfl,h2,h3⟩|⟨y,rfl⟩)
 ·refine zab fun e=>⟨hr,?_⟩
  have e:((r.length:Int)==0)=true:=e;have:r=[]:=List.eq_nil_of_length_eq_zero (by simpa using e);subst this;show(n:Int)::R=(o.length:Int)::o.flatMap zaF;rw[h2,h3,List.append_nil]
 exact zab (by simp)
theorem zCt(h:za5 (zbT L)=true):zez (zbT L)=some (L,true):=by
 obtain⟨hl,hd⟩:=zbP.1 h;have e:zbT L=(L.length:Int)::L.flatMap zaF:=rfl;have hlen:(zbT L).length=(L.flatMap zaF).length+1:=rfl;have hn:=zqH L;unfold zez;refine zal (zag (ψ:=(· =false)) (zae (zkP _) (zbd (by rw[h];rfl) (zbd (beq_eq_false_iff_ne.2 (by omega)) (zae (a:=(L.length:Int)) rfl (zab (decide_eq_false (by omega))))))) ?_);rintro _ rfl;refine zbd rfl (zas (by omega) (zag (ψ:=(· =.inl (L,[]))) (zbi L.length (fun i s=>s=(L.take i,(L.drop i).flatMap zaF,(i:Int))∧i≤L.length) ⟨by rw[List.take_length];rfl,by omega⟩ ?_ ?_) ?_))
 ·rintro i s hi ⟨rfl,_⟩;have hd2:(L.drop i).flatMap zaF=zaF L[i]++(L.drop (i+1)).flatMap zaF:=by rw[List.drop_eq_getElem_cons hi,List.flatMap_cons]
  have hle:((L.drop i).flatMap zaF).length≤(L.flatMap zaF).length:=by
   have h:(L.take i).flatMap zaF++(L.drop i).flatMap zaF=L.flatMap zaF:=by rw[←List.flatMap_append,List.take_append_drop]
   rw[←h,List.length_append];omega
  rw[hd2,List.length_append]at hle;have hat:=zqK hi;refine zae (a:=(L.length:Int)) rfl (zgA (decide_eq_true (by dsimp only;omega)) (zae (a:=(L[i],(L.drop (i+1)).flatMap zaF,true)) (by dsimp only;rw[hd2];exact zqT (by omega) (by omega)) (zbd rfl (zas (by rw[List.length_take];omega) (zab ⟨?_,by omega⟩)))));dsimp only;rw[List.take_succ_eq_append_getElem hi,zaj (n:=(i:Int)+1) (by omega) (by omega)];rfl
 ·rintro s ⟨rfl,_⟩;refine zae (a:=(L.length:Int)) rfl (zbd (decide_eq_false (by dsimp only;omega)) (zab ?_));show Sum.inl (L.take L.length,(L.drop L.length).flatMap zaF)=_;rw[List.drop_length,List.take_length];rfl
 rintro _ rfl;exact zab rfl
theorem ztz:∀{a b:List Cipher},(a.flatMap fun c=>[c.A,c.B])=(b.flatMap fun c=>[c.A,c.B])→a=b
 |[],[],_=>rfl
 |[],y::b,h=>by simp at h
 |x::a,[],h=>by simp at h
 |x::a,y::b,h=>by
  have h:x.A::x.B::(a.flatMap fun c=>[c.A,c.B])=y.A::y.B::(b.flatMap fun c=>[c.A,c.B]):=h;injection h with h1 h
  injection h with h2 h
  rw[ztz h];cases x;cases y;simp only at h1 h2;rw[h1,h2]
theorem zyV(q:List Int):Rn (zc0 q) fun y=>(y.2=true→za5 q=true∧q=zc8 y.1)∧(∀cs,za5 q=true→q=zc8 cs→y=(cs,true)):=by
 unfold zc0;refine zag (ψ:=fun b=>(b=false→za5 q=true∧∃a R,q=a::R∧(q.length:Int)=1+2*a)∧(∀cs,za5 q=true→q=zc8 cs→b=false)) (zae (zkP q) (zan (fun h=>zab ⟨by simp,fun cs h2 _=>by rw[h2]at h;cases h⟩) fun h=>?_)) ?_
 ·have hr:za5 q=true:=by simpa using h
  cases q with
  |nil=>exact zgA rfl (zab ⟨by simp,fun cs _ e=>by unfold zc8 at e;cases e⟩)
  |cons a R=>
   have hd:=(zbP.1 hr).2;rw[List.all_cons,Bool.and_eq_true]at hd;have ha0:=zbz.1 hd.1;refine zbd (beq_eq_false_iff_ne.2 (by simp;omega)) (zae (a:=a) rfl ?_);rw[zaj (n:=2*a) (by omega) (by omega),zaj (by omega) (by omega)];refine zab ⟨fun e=>⟨hr,a,R,rfl,by simpa using e⟩,fun cs _ e=>?_⟩;have h1:=zpM cs;have h2:a=(cs.length:Int):=by unfold zc8 at e;injection e
   rw[e,h1,h2];simp;omega
 rintro b ⟨hb,hb2⟩;refine zan (fun h=>zab ⟨by simp,fun cs h1 h2=>by rw[hb2 cs h1 h2]at h;cases h⟩) fun h=>?_
 obtain⟨hr,a,R,rfl,ha⟩:=hb h;obtain⟨hl,hd⟩:=zbP.1 hr;rw[List.all_cons,Bool.and_eq_true]at hd;have ha0:=zbz.1 hd.1;obtain⟨n,rfl⟩:=Int.eq_ofNat_of_zero_le ha0.1;have hlen:((n:Int)::R).length=R.length+1:=rfl;have hR:R.length=2*n:=by omega
 refine zag (ψ:=fun o=>o.length=n∧R=o.flatMap fun c=>[c.A,c.B]) (zbi n (fun i s=>s.2=((1+2*i:Nat):Int)∧s.1.length=i∧R=(s.1.flatMap fun c=>[c.A,c.B])++R.drop (2*i)) ⟨rfl,rfl,rfl⟩ ?_ ?_) ?_
 ·rintro i ⟨o,k⟩ hi ⟨e1,h2,h3⟩;obtain⟨m,hm⟩:∃m,m=2*i+1:=⟨_,rfl⟩
  have e1:k=(m:Int):=by have e1:k=((1+2*i:Nat):Int):=e1;omega
  subst e1;have h2:o.length=i:=h2;have h3:R=(o.flatMap fun c=>[c.A,c.B])++R.drop (2*i):=h3;dsimp only;rw[if_pos (decide_eq_true (show(m:Int)<(((n:Int)::R).length:Int)by omega))];refine zbm (k:=m) (by omega) ?_;have w:i64.wrap ((m:Int)+1)=((m+1:Nat):Int):=by rw[zaj (by omega) (by omega)];omega
  have w2:i64.wrap ((m:Int)+2)=((1+2*(i+1):Nat):Int):=by rw[zaj (by omega) (by omega)];omega
  rw[w,w2];refine zbm (k:=m+1) (by omega) (zas (by omega) (zab ⟨rfl,by show(o++[_]).length=i+1;rw[List.length_append,h2];rfl,?_⟩));subst hm;rw[List.getElem_cons_succ,List.getElem_cons_succ];show R=((o++[(⟨R[2*i]'(by omega),R[2*i+1]'(by omega)⟩:Cipher)]).flatMap fun c=>[c.A,c.B])++R.drop (2*(i+1))
  have d1:R.drop (2*i)=R[2*i]'(by omega)::R[2*i+1]'(by omega)::R.drop (2*(i+1)):=by
   rw[List.drop_eq_getElem_cons (show 2*i<R.length by omega),List.drop_eq_getElem_cons (show 2*i+1<R.length by omega)];rfl
  rw[List.flatMap_append,List.append_assoc];conv=>lhs;rw[h3,d1]
  rfl
 ·rintro⟨o,k⟩ ⟨e1,h2,h3⟩;have e1:k=((1+2*n:Nat):Int):=e1;subst e1;refine zbd (decide_eq_false (by dsimp only;omega)) (zab ⟨h2,?_⟩);have h3:R=(o.flatMap fun c=>[c.A,c.B])++R.drop (2*n):=h3;rw[List.drop_eq_nil_of_le (by omega),List.append_nil]at h3;exact h3
 rintro o ⟨h2,h3⟩;have e:((n:Int)::R)=zc8 o:=by unfold zc8;rw[h2,←h3]
 refine zab ⟨fun _=>⟨hr,e⟩,fun cs _ e2=>?_⟩;rw[e]at e2;rw[ztz (List.cons.inj e2).2]
theorem zpB(p:Proof):zdg p=zaF p.Commits++(zaF p.Challenges++(zaF p.Responses++[])):=by simp[zdg]
theorem zCI(q:List Int):Rn (zcO q) fun y=>y.2=true→za5 q=true∧q=zdg y.1:=by
 unfold zcO;refine zae (zkP q) (zan (fun h=>zab (by simp)) fun h=>?_);have hr:za5 q=true:=by simpa using h
 have hl:=(zbP.1 hr).1;refine zag (zqO hl) ?_;rintro y1 ⟨a1,b1⟩;refine zag (zqO (by omega)) ?_;rintro y2 ⟨a2,b2⟩;refine zag (zqO (by omega)) ?_;rintro y3 ⟨a3,b3⟩;refine zag (ψ:=fun b=>b=false→y1.2.2=true∧y2.2.2=true∧y3.2.2=true∧y3.2.1=[]) (zan (fun h=>zab (by simp)) fun h1=>zan (fun h=>zab (by simp)) fun h2=>zan (fun h=>zab (by simp)) fun h3=>zab fun e=>⟨by simpa using h1,by simpa using h2,by simpa using h3,?_⟩) ?_
 ·have:=of_decide_eq_false e;exact List.eq_nil_of_length_eq_zero (by omega)
 intro b hb;refine zan (fun h=>zab (by simp)) fun h=>zab fun _=>⟨hr,?_⟩
 obtain⟨c1,c2,c3,c4⟩:=hb h;rw[zpB,a1 c1,a2 c2,a3 c3,c4]
theorem zCD{p:Proof}(h:za5 (zdg p)=true):zcO (zdg p)=some (p,true):=by
 have hl:=(zbP.1 h).1;have he:=zmO p;have h3:∀q:List Int,(zaF q).length=q.length+1:=fun q=>rfl
 unfold zcO;refine zal (zae (zkP _) (zbd (by rw[h];rfl) ?_));rw[zpB];refine zae (zqT (by omega) (by rw[List.length_append,List.length_append,h3,h3];simp;omega)) (zae (zqT (by omega) (by rw[List.length_append,h3];simp;omega)) (zae (zqT (by omega) (by simp)) (zag (ψ:=(· =false)) (zbd rfl (zbd rfl (zbd rfl (zab rfl)))) ?_)));rintro _ rfl;exact zbd rfl (zab rfl)
theorem zy6(h1:L.length≤1048576)(h2:∀p∈L,p.length≤1048576):zb8 L=some (if za5 (zbT L)=true then(zbT L,true)else([],false)):=by
 unfold zb8;refine zal (zag (ψ:=fun c=>c=.inl (zbT L)∨(c=.inr ([],false)∧za5 (zbT L)=false)) (zaQ (fun i s=>s=(L.length:Int)::(L.take i).flatMap zaF∧(s.length≤400)) ⟨rfl,by simp⟩ ?_ fun s h=>.inl (by rw[h.1,List.take_length];rfl)) ?_)
 ·rintro i s hi ⟨rfl,hs⟩;have hx:=h2 _ (List.getElem_mem hi)
  have e1:(L.length:Int)::(L.take i).flatMap zaF++zaF L[i]=(L.length:Int)::(L.take (i+1)).flatMap zaF:=by
   rw[List.take_succ_eq_append_getElem hi,List.flatMap_append];simp
  have hc:(zaF L[i]).length=L[i].length+1:=rfl;refine zbm hi (zae (zml (by omega)) (zas (by rw[hc];omega) ?_));rw[e1];refine zan (fun h=>zab (.inr ⟨rfl,?_⟩)) fun h=>zab ⟨rfl,by have:=of_decide_eq_false h;omega⟩
  have hg:=of_decide_eq_true h;have:=zpj L (i+1);cases hr:za5 (zbT L)with
  |false=>rfl
  |true=>
   have:=(zbP.1 hr).1;unfold zbT at this;rw[List.length_cons]at this hg;omega
 rintro c (rfl|⟨rfl,hr⟩)
 ·rw[Sum.elim_inl,zk2,Option.bind_some];exact zab (by split<;>rfl)
 exact zab (by rw[hr];rfl)
theorem zoE(R:List Int)(b:Bool):Rn (zaN R b) fun y=>y.2.1.length≤R.length:=by
 cases R with
 |nil=>exact⟨_,rfl,by simp⟩
 |cons a R=>exact⟨_,zmM a R b,by simp⟩
theorem zq2(h:R.length≤1048576)(b:Bool):Rn (zaD R b) fun y=>y.1.length≤R.length∧y.2.1.length≤R.length:=by
 unfold zaD;refine zag (zoE R b) fun y hy=>zae (zd8 _ _ _) (zan (fun _=>zab ⟨by simp,hy⟩) fun h2=>?_)
 have h2:0≤y.1∧y.1≤(y.2.1.length:Int):=by simpa using h2
 have hl:((y.2.1.take y.1.toNat).drop 0).length≤R.length:=by rw[List.drop_zero,List.length_take];omega
 refine zas h2.1 (zas (by omega) (zae (zzr (by omega)) (zas h2.1 (zas (by omega) (zab ⟨hl,?_⟩)))));dsimp only;rw[List.length_drop,List.length_take];omega
theorem zom(R:List Int)(b:Bool):zbk R b=some (b&&((R.length:Int)==0)):=by
 unfold zbk;cases b<;>rfl
theorem zC7(hl:l.length≤1048576):Rn (zbW l) fun y=>y.2=true→za5 l=true∧l=zbT y.1:=by
 unfold zbW;refine zae (zfW l) (zag (zoE l _) fun z hz=>?_);obtain⟨M,hM⟩:∃M:Int,M=if(l.length:Int)<z.1 then(l.length:Int)else z.1:=⟨_,rfl⟩
 rw[←hM];have hM2:M≤l.length:=by rw[hM];split<;>omega
 refine zag (ψ:=fun c=>c.2.length≤1048576∧∀p∈c.2,p.length≤1048576) (zbi M.toNat (fun i s=>s.2.2=(i:Int)∧s.2.1.length=i∧s.1.1.length≤1048576∧∀p∈s.2.1,p.length≤1048576) ⟨rfl,rfl,by dsimp only;omega,fun p h=>by cases h⟩ ?_ ?_) ?_
 ·rintro i ⟨⟨R,b⟩,o,k⟩ hi ⟨e1,h2,h3,h4⟩;have e1:k=(i:Int):=e1;subst e1;have h2:o.length=i:=h2;refine zgA (decide_eq_true (by dsimp only;omega)) (zag (zq2 h3 b) fun y hy=>zas (by dsimp only;omega) (zab ⟨?_,?_,Nat.le_trans hy.2 h3,fun p hp=>?_⟩))
  ·show i64.wrap ((i:Int)+1)=_;rw[zaj (by omega) (by omega)];rfl
  ·show(o++[y.1]).length=i+1;rw[List.length_append,h2];rfl
  rcases List.mem_append.1 hp with h|h
  ·exact h4 p h
  rw[List.mem_singleton.1 h];exact Nat.le_trans hy.1 h3
 ·rintro⟨⟨R,b⟩,o,k⟩ ⟨e1,h2,h3,h4⟩;have e1:k=(M.toNat:Int):=e1;subst e1;have h2:o.length=M.toNat:=h2;exact zbd (decide_eq_false (by dsimp only;omega)) (zab ⟨by dsimp only;omega,h4⟩)
 rintro c ⟨c1,c2⟩;refine zae (zy6 c1 c2) (zag (ψ:=fun b=>b=false→za5 (zbT c.2)=true∧zbT c.2=l) (zae (zom _ _) (zan (fun _=>zab (by simp)) fun _=>zan (fun _=>zab (by simp)) fun h2=>zae (zjq _ _) (zab fun e=>?_))) ?_)
 ·cases hr:za5 (zbT c.2)with
  |false=>rw[hr]at h2;cases h2
  |true=>
   rw[hr]at e;exact⟨rfl,by simpa using e⟩
 intro b hb;refine zan (fun h=>zab (by simp)) fun h=>zab fun _=>?_
 obtain⟨h1,h2⟩:=hb h;rw[←h2];exact⟨h1,rfl⟩
theorem zr1{l:List Cipher}(hl:l.length≤1048576):zcG l=some (if za5 (zc8 l)=true then(zc8 l,true)else([],false)):=by
 unfold zcG;refine zal (zag (ψ:=(· =zc8 l)) (zaQ (fun i s=>s=(l.length:Int)::((l.take i).flatMap fun c=>[c.A,c.B])) rfl ?_ fun s h=>by rw[h,List.take_length];rfl) ?_)
 ·rintro i s hi rfl;have hn:=zy0 (l.take i);rw[List.length_take]at hn;refine zbm hi (zas (by rw[List.length_cons];omega) (zab ?_));show(l.length:Int)::_++_=(l.length:Int)::_;rw[List.take_succ_eq_append_getElem hi,List.flatMap_append];rfl
 rintro _ rfl;exact zae (zk2 _) (zab (by cases za5 (zc8 l)<;>rfl))
theorem zCh{q:List Int}(hq:q.length≤1048576):Rn (zcg q) fun y=>y.1.length≤1048576∧(y.2=true→za5 q=true∧q=zc8 y.1):=by
 unfold zcg;refine zae (zfW q) (zag (zoE q _) fun z hz=>?_);obtain⟨M,hM⟩:∃M:Int,M=if(q.length:Int)<z.1 then(q.length:Int)else z.1:=⟨_,rfl⟩
 rw[←hM];have hM2:M≤q.length:=by rw[hM];split<;>omega
 refine zag (ψ:=fun c=>c.2.length≤1048576) (zbi M.toNat (fun i s=>s.2.2=(i:Int)∧s.2.1.length=i) ⟨rfl,rfl⟩ ?_ ?_) ?_
 ·rintro i ⟨⟨R,b⟩,o,k⟩ hi ⟨e1,h2⟩;have e1:k=(i:Int):=e1;subst e1;have h2:o.length=i:=h2;refine zgA (decide_eq_true (by dsimp only;omega)) (zag (zoE _ _) fun y hy=>zag (zoE _ _) fun y2 hy2=>zas (by dsimp only;omega) (zab ⟨?_,?_⟩))
  ·show i64.wrap ((i:Int)+1)=_;rw[zaj (by omega) (by omega)];rfl
  show(o++[_]).length=i+1;rw[List.length_append,h2];rfl
 ·rintro⟨⟨R,b⟩,o,k⟩ ⟨e1,h2⟩;have e1:k=(M.toNat:Int):=e1;subst e1;have h2:o.length=M.toNat:=h2;exact zbd (decide_eq_false (by dsimp only;omega)) (zab (by show o.length≤1048576;omega))
 intro c c1;refine zae (zr1 c1) (zag (ψ:=fun b=>b=false→za5 (zc8 c.2)=true∧zc8 c.2=q) (zae (zom _ _) (zan (fun _=>zab (by simp)) fun _=>zan (fun _=>zab (by simp)) fun h2=>zae (zjq _ _) (zab fun e=>?_))) ?_)
 ·cases hr:za5 (zc8 c.2)with
  |false=>rw[hr]at h2;cases h2
  |true=>
   rw[hr]at e;exact⟨rfl,by simpa using e⟩
 intro b hb;refine zan (fun h=>zab ⟨by simp,by simp⟩) fun h=>zab ⟨c1,fun _=>?_⟩
 obtain⟨h1,h2⟩:=hb h;rw[←h2];exact⟨h1,rfl⟩
theorem zBu{l:List Cipher}(h:za5 (zc8 l)=true):zcg (zc8 l)=some (l,true):=by
 have hn:=zpM l;have hl:=(zbP.1 h).1;have e:zc8 l=(l.length:Int)::l.flatMap (fun c=>[c.A,c.B]):=rfl;have hmin:(if((zc8 l).length:Int)<(l.length:Int)then((zc8 l).length:Int)else(l.length:Int))=(l.length:Int):=if_neg (by omega);unfold zcg;refine zal (zae (zfW _) (zae (a:=((l.length:Int),(l.flatMap (fun c=>[c.A,c.B]),true))) (by rw[h,e];exact zmM _ _ _) ?_));dsimp only;rw[hmin];refine zag (ψ:=(· =(([],true),l))) (zbi l.length (fun i s=>s=(((l.drop i).flatMap (fun c=>[c.A,c.B]),true),l.take i,(i:Int))∧i≤l.length) ⟨rfl,by omega⟩ ?_ ?_) ?_
 ·rintro i s hi ⟨rfl,_⟩;have hd2:(l.drop i).flatMap (fun c=>[c.A,c.B])=l[i].A::l[i].B::(l.drop (i+1)).flatMap (fun c=>[c.A,c.B]):=by rw[List.drop_eq_getElem_cons hi,List.flatMap_cons];rfl
  refine zgA (by simpa using hi) (zae (a:=(l[i].A,(l[i].B::(l.drop (i+1)).flatMap (fun c=>[c.A,c.B]),true))) (by dsimp only;rw[hd2];exact zmM _ _ _) (zae (zmM _ _ _) (zas (by rw[List.length_take];omega) (zab ⟨?_,by omega⟩))));dsimp only;rw[List.take_succ_eq_append_getElem hi,zaj (n:=(i:Int)+1) (by omega) (by omega)];rfl
 ·rintro s ⟨rfl,_⟩;refine zbd (by simp) (zab ?_);show((((l.drop l.length).flatMap (fun c=>[c.A,c.B]),true),l.take l.length):(List Int×Bool)×List Cipher)=_;rw[List.drop_length,List.take_length];rfl
 rintro _ rfl;refine zae (zr1 (l:=l) (by omega)) (zag (ψ:=(· =false)) (zae (zom _ _) (zbd rfl (zbd (by rw[h];rfl) (zae (zjq _ _) (zab (by simp[h])))))) ?_);rintro _ rfl;exact zbd rfl (zab rfl)
theorem zEG{q:List Int}(hq:q.length≤1048576):Rn (zcu q) fun y=>ziJ y.1:=by
 unfold zcu;refine zae (zfW q) (zag (zq2 hq _) fun y1 h1=>zag (zq2 (by omega) _) fun y2 h2=>zag (zq2 (by omega) _) fun y3 h3=>zae (zom _ _) (zan (fun _=>zab ⟨by simp,by simp,by simp⟩) fun _=>zab ⟨?_,?_,?_⟩))<;>dsimp only<;>omega
theorem zBb{p:Proof}(h:za5 (zdg p)=true):zcu (zdg p)=some (p,true):=by
 have hl:=(zbP.1 h).1;have he:=zmO p;have h3:∀q:List Int,(zaF q).length=q.length+1:=fun q=>rfl
 unfold zcu;refine zal (zae (zfW _) ?_);rw[h,zpB];exact zae (zqV (by omega) (by rw[List.length_append,List.length_append,h3,h3];simp;omega)) (zae (zqV (by omega) (by rw[List.length_append,h3];simp;omega)) (zae (zqV (by omega) (by simp)) (zae zyE (zbd rfl (zab rfl)))))
theorem zBe(h:za5 (zbT L)=true):zbW (zbT L)=some (L,true):=zA7 (zbP.1 h).1 (zbP.1 h).2
def RcO(l:List Int)(x:Sealed):Prop:=l=zgJ x∧za5 l=true∧inB 0 999999 x.Voter=true
theorem zjh(h:za5 (zgJ x)=true):za5 (zc8 x.Ciphers)=true∧(∀p∈x.Proofs++[x.Sum],za5 (zdg p)=true)∧x.Proofs.length≤400:=by
 have hs:∀p∈zeR x,za5 p=true:=fun p hp=>zo8 h hp
 refine⟨hs _ (by unfold zeR;simp),fun p hp=>hs _ (List.mem_append_right _ (List.mem_map.2 ⟨p,hp,rfl⟩)),?_⟩;have h1:=(zbP.1 h).1;have h2:=zqH (zeR x);have h3:(zeR x).length=x.Proofs.length+3:=by unfold zeR;simp
 have h4:(zgJ x).length=((zeR x).flatMap zaF).length+1:=rfl;omega
theorem zyG(h1:x.Ciphers.length≤1048576)(h2:x.Proofs.length≤1048576)(h3:∀p∈x.Proofs++[x.Sum],ziJ p):Rn (zcZ x) fun y=>(y.2=true→y.1=zgJ x∧za5 (zgJ x)=true∧inB 0 999999 x.Voter=true)∧(za5 (zgJ x)=true→inB 0 999999 x.Voter=true→y=(zgJ x,true)):=by
 unfold zcZ;refine zae (zr1 h1) ?_;refine zag (ψ:=fun b=>(b=false→za5 (zc8 x.Ciphers)=true∧inB 0 999999 x.Voter=true∧x.Proofs.length≤400)∧(b=true→¬(za5 (zgJ x)=true∧inB 0 999999 x.Voter=true))) (zan (fun e=>zab ⟨by simp,fun _ hh=>?_⟩) fun e=>zae (zoW _) (zan (fun e2=>zab ⟨by simp,fun _ hh=>by rw[hh.2]at e2;cases e2⟩) fun e2=>zab ⟨fun e3=>⟨?_,by simpa using e2,by have:=of_decide_eq_false e3;omega⟩,fun e3 hh=>by have:=(zjh hh.1).2.2;have:=of_decide_eq_true e3;omega⟩)) ?_
 ·rw[(zjh hh.1).1]at e;cases e
 ·cases hr:za5 (zc8 x.Ciphers)with
  |true=>rfl
  |false=>rw[hr]at e;cases e
 rintro b ⟨hb,hb2⟩;refine zan (fun h=>zab ⟨by simp,fun a b=>absurd ⟨a,b⟩ (hb2 h)⟩) fun h=>?_
 obtain⟨g1,g2,g3⟩:=hb h
 have hk:zbf x.Proofs=some x.Proofs:=by
  unfold zbf;rw[zbI (by omega)]
 rw[if_pos g1];have hln:(x.Proofs++[x.Sum]).length=x.Proofs.length+1:=by simp
 refine zae hk (zas (by omega) (zag (ψ:=fun c=>c=.inl (zeR x)∧(∀p∈zeR x,p.length≤1048576)∨(c=.inr ([],false)∧za5 (zgJ x)=false)) (zaQ (fun i s=>s=[[x.Voter],zc8 x.Ciphers]++((x.Proofs++[x.Sum]).take i).map zdg∧∀p∈s,p.length≤1048576) ⟨by simp,fun p hp=>?_⟩ ?_ fun s h=>.inl ⟨by rw[h.1,List.take_length];rfl,by
  have:=h.2
  rw[h.1,List.take_length]at this;exact this⟩) ?_))
 ·simp only[List.mem_cons,List.not_mem_nil,or_false]at hp;rcases hp with rfl|rfl
  ·simp
  have:=(zbP.1 g1).1;omega
 ·rintro i s hi ⟨rfl,hs⟩;have o:=h3 _ (List.getElem_mem hi);refine zbm hi (zae (zqy o.1 o.2.1 o.2.2) ?_);cases hr:za5 (zdg (x.Proofs++[x.Sum])[i])with
  |false=>
   refine zgA (by rfl) (zab (.inr ⟨rfl,?_⟩));cases hr2:za5 (zgJ x)with
   |false=>rfl
   |true=>rw[(zjh hr2).2.1 _ (List.getElem_mem hi)]at hr;cases hr
  |true=>
   refine zbd (by rfl) (zas (by simp at hi⊢;omega) (zab ⟨?_,fun p hp=>?_⟩))
   ·rw[List.take_succ_eq_append_getElem hi,List.map_append,←List.append_assoc];rfl
   ·rcases List.mem_append.1 hp with hp|hp
    ·exact hs p hp
    ·rw[List.mem_singleton.1 hp];have:=(zbP.1 hr).1;show(zdg _).length≤1048576;omega
 rintro c (⟨rfl,hp⟩|⟨rfl,hr⟩)
 ·have hpl:(zeR x).length=x.Proofs.length+3:=by unfold zeR;simp
  refine zae (zy6 (by omega) hp) (zab ?_);show _∧(za5 (zbT (zeR x))=true→_);cases hr:za5 (zbT (zeR x))with
  |false=>exact⟨by simp,by simp⟩
  |true=>exact⟨fun _=>⟨rfl,hr,g2⟩,fun _ _=>rfl⟩
 exact zab ⟨by simp,fun a=>by rw[a]at hr;cases hr⟩
theorem zvK{α:Type}{l:List α}(h:l.length=1):∃v,l=[v]:=List.length_eq_one_iff.1 h
theorem zsi{α:Type}{l:List α}(h:3≤l.length):∃a b r,l=a::b::r∧r≠[]:=by
 match l,h with
 |a::b::c::r,_=>exact⟨a,b,c::r,rfl,by simp⟩
theorem zzI{α:Type}{l:List α}{n:Nat}(h:l.length=n+1):∃x,l=l.take n++[x]∧l[n]? =some x:=by
 have hn:n<l.length:=by omega
 refine⟨l[n],?_,List.getElem?_eq_getElem hn⟩;have:=List.take_succ_eq_append_getElem hn;rw[←this,←h,List.take_length]
theorem zEP(hl:l.length≤1048576):Rn (zbx l) fun y=>y.2=true→RcO l y.1:=by
 unfold zbx;refine zag (zC7 hl) fun z hz=>?_
 refine zag (ψ:=fun b=>b=false→z.2=true∧∃v c r,z.1=[v]::c::r∧r≠[]) (zan (fun h=>zab (by simp)) fun h=>zan (fun h=>zab (by simp)) fun h2=>?_) fun b hb=>zan (fun h=>zab (by simp)) fun h=>?_
 ·obtain⟨a,c,r,e,hr⟩:=zsi (l:=z.1) (by have:=of_decide_eq_false h2;omega);rw[e];refine zae (a:=a) rfl (zab fun e2=>⟨by simpa using h,?_⟩);obtain⟨v,rfl⟩:=zvK (l:=a) (by have h9:(a.length:Int)=1:=(by simpa using e2);omega);exact⟨v,c,r,rfl,hr⟩
 obtain⟨h2,v,c,r,e,hr⟩:=hb h;obtain⟨hrec,hjl⟩:=hz h2;rw[e]at hjl⊢;subst hjl;have hsub:∀p∈[v]::c::r,za5 p=true:=fun p hp=>zo8 hrec hp
 have hc:=zbP.1 (hsub c (by simp));have hll:=(zbP.1 hrec).1;have hjn:=zqH ([v]::c::r);have hjl:(zbT ([v]::c::r)).length=(([v]::c::r).flatMap zaF).length+1:=rfl;have hrl:([v]::c::r).length=r.length+2:=rfl;refine zae (a:=c) rfl (zag (zCh (by omega)) fun y hy=>zae (a:=[v]) rfl (zae (a:=v) rfl (zas (by omega) ?_)));have hdr:(([v]::c::r).take ([v]::c::r).length).drop 2=r:=by rw[List.take_length];rfl
 rw[hdr];refine zag (ψ:=fun s=>s.2.1=v∧s.2.2.1=y.1∧s.2.2.2.1.length=r.length∧∀p∈s.2.2.2.1,ziJ p) (zaQ (fun i s=>s.2.1=v∧s.2.2.1=y.1∧s.2.2.2.1.length=i∧∀p∈s.2.2.2.1,ziJ p) ⟨rfl,rfl,rfl,fun p h=>by cases h⟩ ?_ fun s h=>h) ?_
 ·rintro i s hi ⟨e1,e2,e3,e4⟩;have hp:=zbP.1 (hsub r[i] (by simp));refine zbm hi (zag (zEG (by omega)) fun p hp=>zag (ψ:=fun _=>True) (zan (fun _=>zab trivial) fun _=>zab trivial) fun b _=>zas (by omega) (zab ⟨e1,e2,?_,fun q hq=>?_⟩))
  ·show(s.2.2.2.1++[p.1]).length=i+1;rw[List.length_append,e3];rfl
  rcases List.mem_append.1 hq with h|h
  ·exact e4 q h
  rw[List.mem_singleton.1 h];exact hp
 rintro s ⟨e1,e2,e3,e4⟩;obtain⟨n,hn⟩:∃n,r.length=n+1:=⟨r.length-1,by have:=List.length_pos_iff.2 hr;omega⟩
 have w:i64.wrap ((s.2.2.2.1.length:Int)-1)=(n:Int):=by rw[zaj (by omega) (by omega)];omega
 obtain⟨x,hx,hx2⟩:=zzI (l:=s.2.2.2.1) (n:=n) (by omega);have hmem:∀q∈s.2.2.2.1.take n++[x],ziJ q:=by rw[←hx];exact e4
 rw[w,Int.toNat_natCast,e1,e2];refine zae (zD9 hx2) (zas (by omega) (zas (by omega) (zag (zyG (by exact hy.1) (by show(s.2.2.2.1.take n).length≤1048576;rw[List.length_take];omega) hmem) ?_)));rintro z2 ⟨k1,_⟩;refine zag (ψ:=fun b=>b=false→z2.2=true∧z2.1=zbT ([v]::c::r)) (zan (fun _=>zab (by simp)) fun _=>zan (fun _=>zab (by simp)) fun h3=>zae (zjq _ _) (zab fun e=>⟨by simpa using h3,by simpa using e⟩)) fun b hb=>zan (fun h=>zab (by simp)) fun h=>zab fun _=>?_
 obtain⟨g1,g2⟩:=hb h;obtain⟨j1,j2,j3⟩:=k1 g1;exact⟨by rw[←g2,j1],hrec,j3⟩
theorem zFh(h:RcO (zgJ x) x):zbx (zgJ x)=some (x,true):=by
 obtain⟨_,hr,hv⟩:=h;obtain⟨hc,hp,hm⟩:=zjh hr;have hpl:(zeR x).length=x.Proofs.length+3:=by unfold zeR;simp
 have hcl:=(zbP.1 hc).1;have hcn:=zpM x.Ciphers
 have hsr:zcZ x=some (zgJ x,true):=by
  obtain⟨y,y1,_,y2⟩:=zyG (x:=x) (by omega) (by omega) fun p q=>by
   have:=(zbP.1 (hp p q)).1;have:=zmO p;exact⟨by omega,by omega,by omega⟩
  rw[y1,y2 hr hv]
 have hdr:((zeR x).take (zeR x).length).drop 2=(x.Proofs++[x.Sum]).map zdg:=by rw[List.take_length];rfl
 have hln:((x.Proofs++[x.Sum]).map zdg).length=(x.Proofs++[x.Sum]).length:=List.length_map ..;have hn:(x.Proofs++[x.Sum]).length=x.Proofs.length+1:=by simp
 unfold zbx;refine zal (zae (zBe (L:=zeR x) hr) (zag (ψ:=(· =false)) (zbd rfl (zbd (decide_eq_false (by dsimp only;omega)) (zae (a:=[x.Voter]) rfl (zab rfl)))) ?_));rintro _ rfl;refine zbd rfl (zae (a:=zc8 x.Ciphers) rfl (zae (zBu hc) (zae (a:=[x.Voter]) rfl (zae (a:=x.Voter) rfl (zas (by dsimp only;omega) ?_)))));dsimp only;rw[hdr,hln];refine zag (ψ:=(· =(true,x.Voter,x.Ciphers,x.Proofs++[x.Sum],[],[],[]))) (zaQ (fun i s=>s=(true,x.Voter,x.Ciphers,(x.Proofs++[x.Sum]).take i,[],[],[])) rfl ?_ ?_) ?_
 ·rintro i s hi rfl;refine zbm (by rw[hln];exact hi) ?_;rw[List.getElem_map];refine zae (zBb (hp _ (List.getElem_mem hi))) (zae (a:=true) rfl (zas (by rw[List.length_take];omega) (zab ?_)));rw[List.take_succ_eq_append_getElem hi];rfl
 ·rintro s rfl;rw[List.take_length]
 rintro _ rfl;have w:i64.wrap (((x.Proofs++[x.Sum]).length:Int)-1)=(x.Proofs.length:Int):=by rw[zaj (by omega) (by omega)];omega
 have hlast:ix (x.Proofs++[x.Sum]) (x.Proofs.length:Int)=some x.Sum:=by
  rw[zaY (by omega)];simp
 have hx:(Sealed.mk x.Voter x.Ciphers ((x.Proofs++[x.Sum]).take x.Proofs.length) x.Sum)=x:=by rw[List.take_left]
 dsimp only;rw[w];refine zae hlast (zas (by omega) (zas (by rw[Int.toNat_natCast];omega) ?_));rw[Int.toNat_natCast,hx];refine zae hsr (zag (ψ:=(· =false)) (zbd rfl (zbd rfl (zae (zjq _ _) (zab (by simp))))) ?_);rintro _ rfl;exact zbd rfl (zab rfl)
theorem zE3(l:List Int):Rn (zcv l) fun y=>y.2=true→RcO l y.1:=by
 unfold zcv;refine zag (zEN l) fun z hz=>?_
 refine zag (ψ:=fun b=>b=false→z.2=true∧∃v c r,z.1=[v]::c::r∧r≠[]∧v≤999999) (zan (fun h=>zab (by simp)) fun h=>zan (fun h=>zab (by simp)) fun h2=>?_) fun b hb=>zan (fun h=>zab (by simp)) fun h=>?_
 ·obtain⟨a,c,r,e,hr⟩:=zsi (l:=z.1) (by have:=of_decide_eq_false h2;omega);rw[e];refine zae (a:=a) rfl (zan (fun h=>zab (by simp)) fun h3=>?_);obtain⟨v,rfl⟩:=zvK (l:=a) (by have h9:(a.length:Int)=1:=(by simpa using h3);omega);exact zae (a:=v) rfl (zab fun e2=>⟨by simpa using h,v,c,r,rfl,hr,by have:=of_decide_eq_false e2;omega⟩)
 obtain⟨h2,v,c,r,e,hr,hv⟩:=hb h;obtain⟨hrec,hjl⟩:=hz h2;rw[e]at hjl⊢;subst hjl;have hsub:∀p∈[v]::c::r,za5 p=true:=fun p hp=>zo8 hrec hp
 have hll:=(zbP.1 hrec).1;have hjn:=zqH ([v]::c::r);have hjl:(zbT ([v]::c::r)).length=(([v]::c::r).flatMap zaF).length+1:=rfl;have hrl:([v]::c::r).length=r.length+2:=rfl
 have hv0:zaX v=true:=by
  have:=(zbP.1 (hsub [v] (by simp))).2;simpa using this
 have hvi:inB 0 999999 v=true:=ze7.2 ⟨(zbz.1 hv0).1,hv⟩;refine zae (a:=[v]) rfl (zae (a:=v) rfl (zae (a:=c) rfl (zag (zyV c) ?_)));rintro y ⟨hy,_⟩;refine zan (fun h=>zab (by simp)) fun hy2=>zas (by omega) ?_
 obtain⟨_,hcv⟩:=hy (by simpa using hy2);have hdr:(([v]::c::r).take ([v]::c::r).length).drop 2=r:=by rw[List.take_length];rfl
 have w:i64.wrap ((([v]::c::r).length:Int)-3)=(r.length:Int)-1:=by rw[zaj (by omega) (by omega)];omega
 rw[hdr,w];refine zag (ψ:=fun o=>(∃s,o=.inl s∧s.1=v∧s.2.1=y.1∧r=(s.2.2.1++[Proof.mk s.2.2.2.1 s.2.2.2.2.1 s.2.2.2.2.2]).map zdg)∨∃q,o=.inr (q,false)) (zaQ (fun i s=>s.1=v∧s.2.1=y.1∧(i<r.length→r.take i=s.2.2.1.map zdg)∧(i=r.length→r=(s.2.2.1++[Proof.mk s.2.2.2.1 s.2.2.2.2.1 s.2.2.2.2.2]).map zdg)) ⟨rfl,rfl,fun _=>rfl,fun h=>absurd (List.eq_nil_of_length_eq_zero h.symm) hr⟩ ?_ fun s h=>.inl ⟨_,rfl,h.1,h.2.1,h.2.2.2 rfl⟩) ?_
 ·rintro i s hi ⟨e1,e2,e3,_⟩;have e3:=e3 hi
  have hsl:s.2.2.1.length=i:=by
   have:=congrArg List.length e3;rw[List.length_take,List.length_map]at this;omega
  refine zag (ψ:=fun o=>(∃q,o=.inr (.out (.inr (q,false))))∨∃s2,o=.inl s2∧s2.1=v∧s2.2.1=y.1∧(i+1<r.length→r.take (i+1)=s2.2.2.1.map zdg)∧(i+1=r.length→r=(s2.2.2.1++[Proof.mk s2.2.2.2.1 s2.2.2.2.2.1 s2.2.2.2.2.2]).map zdg)) (zbm hi (zag (zCI _) fun p hp=>zan (fun _=>zab (.inl ⟨_,rfl⟩)) fun h=>?_)) ?_
  ·obtain⟨_,hpe⟩:=hp (by simpa using h);have ht:r.take (i+1)=(s.2.2.1++[p.1]).map zdg:=by rw[List.take_succ_eq_append_getElem hi,e3,hpe,List.map_append];rfl
   refine zan (fun h=>?_) fun h=>zas (by omega) (zab (.inr ⟨_,rfl,e1,e2,fun _=>ht,fun h2=>?_⟩))
   ·have h:(i:Int)=(r.length:Int)-1:=by simpa using h
    refine zab (.inr ⟨_,rfl,e1,e2,fun h2=>by omega,fun h2=>?_⟩);rw[h2,List.take_length]at ht;exact ht
   have h:(i:Int)≠(r.length:Int)-1:=by simpa using h
   omega
  rintro o (⟨q,rfl⟩|⟨s2,rfl,k⟩)
  ·exact zab (.inr ⟨_,rfl⟩)
  exact zab k
 rintro o (⟨s,rfl,e1,e2,e3⟩|⟨q,rfl⟩)
 ·refine zab fun _=>⟨?_,hrec,by show inB 0 999999 s.1=true;rw[e1];exact hvi⟩
  show zbT ([v]::c::r)=zbT ([[s.1],zc8 s.2.1]++(s.2.2.1++[Proof.mk s.2.2.2.1 s.2.2.2.2.1 s.2.2.2.2.2]).map zdg);rw[e1,e2,←e3,←hcv];rfl
 exact zab (by simp)
theorem zCr(h:RcO (zgJ x) x):zcv (zgJ x)=some (x,true):=by
 obtain⟨_,hr,hv⟩:=h;obtain⟨hc,hp,hm⟩:=zjh hr;have hpl:(zeR x).length=x.Proofs.length+3:=by unfold zeR;simp
 have hv2:=ze7.1 hv;have hdr:((zeR x).take (zeR x).length).drop 2=(x.Proofs++[x.Sum]).map zdg:=by rw[List.take_length];rfl
 have hln:((x.Proofs++[x.Sum]).map zdg).length=(x.Proofs++[x.Sum]).length:=List.length_map ..;have hn:(x.Proofs++[x.Sum]).length=x.Proofs.length+1:=by simp
 have hci:zc0 (zc8 x.Ciphers)=some (x.Ciphers,true):=by
  obtain⟨y,y1,_,y2⟩:=zyV (zc8 x.Ciphers);rw[y1,y2 _ hc rfl]
 unfold zcv;refine zal (zae (zCt (L:=zeR x) hr) (zag (ψ:=(· =false)) (zbd rfl (zbd (decide_eq_false (by dsimp only;omega)) (zae (a:=[x.Voter]) rfl (zbd rfl (zae (a:=x.Voter) rfl (zab (decide_eq_false (by omega)))))))) ?_));rintro _ rfl;refine zbd rfl (zae (a:=[x.Voter]) rfl (zae (a:=x.Voter) rfl (zae (a:=zc8 x.Ciphers) rfl (zae hci (zbd rfl (zas (by dsimp only;omega) ?_))))));have w:i64.wrap (((zeR x).length:Int)-3)=(x.Proofs.length:Int):=by rw[zaj (by omega) (by omega)];omega
 dsimp only;rw[hdr,hln,w];refine zag (ψ:=(· =.inl (x.Voter,x.Ciphers,x.Proofs,x.Sum.Commits,x.Sum.Challenges,x.Sum.Responses))) (zaQ (fun i s=>(i<(x.Proofs++[x.Sum]).length→s=(x.Voter,x.Ciphers,x.Proofs.take i,[],[],[]))∧(i=(x.Proofs++[x.Sum]).length→s=(x.Voter,x.Ciphers,x.Proofs,x.Sum.Commits,x.Sum.Challenges,x.Sum.Responses))) ⟨fun _=>rfl,fun h=>by omega⟩ ?_ fun s h=>by rw[h.2 rfl]) ?_
 ·rintro i s hi ⟨hs,_⟩;rw[hs hi];refine zag (ψ:=fun o=>∃s2,o=.inl s2∧(i+1<(x.Proofs++[x.Sum]).length→s2=(x.Voter,x.Ciphers,x.Proofs.take (i+1),[],[],[]))∧(i+1=(x.Proofs++[x.Sum]).length→s2=(x.Voter,x.Ciphers,x.Proofs,x.Sum.Commits,x.Sum.Challenges,x.Sum.Responses))) (zbm (by rw[hln];exact hi) ?_) ?_
  ·rw[List.getElem_map];refine zae (zCD (hp _ (List.getElem_mem hi))) (zbd rfl (zan (fun h=>?_) fun h=>?_))
   ·have h:(i:Int)=(x.Proofs.length:Int):=by simpa using h
    have h:i=x.Proofs.length:=by omega
    subst h;refine zab ⟨_,rfl,fun h2=>by omega,fun _=>?_⟩;dsimp only;rw[List.take_length,List.getElem_append_right (Nat.le_refl _)];simp
   have h:(i:Int)≠(x.Proofs.length:Int):=by simpa using h
   have hi2:i<x.Proofs.length:=by omega
   refine zas (by dsimp only;rw[List.length_take];omega) (zab ⟨_,rfl,fun _=>?_,fun h2=>by omega⟩);dsimp only;rw[List.take_succ_eq_append_getElem hi2,List.getElem_append_left hi2]
  rintro o ⟨s2,rfl,k⟩;exact zab k
 rintro _ rfl;exact zab rfl
theorem zDd(hl:l.length≤1048576):∃x y t,zbx l=some (x,t)∧zcv l=some (y,t)∧(t=true→y=x∧RcO l x):=by
 obtain⟨⟨x,t⟩,h1,h2⟩:=zEP hl;obtain⟨⟨y,t2⟩,h3,h4⟩:=zE3 l;cases t with
 |true=>
  have h:=h2 rfl;have hl2:l=zgJ x:=h.1;subst hl2;exact⟨x,x,true,h1,zCr h,fun _=>⟨rfl,h⟩⟩
 |false=>
  cases t2 with
  |false=>exact⟨x,y,false,h1,h3,by simp⟩
  |true=>
   have h:=h4 rfl;have hl2:l=zgJ y:=h.1;subst hl2;rw[zFh h]at h1;cases h1
theorem zvA(h:zc7 p=some true):zep p.Gr p.Ct=some true:=by
 obtain⟨b,s1,_⟩:=zoi p.Gr p.Ct;cases b with
 |true=>exact s1
 |false=>
  unfold zc7 at h;rw[s1]at h;cases h
structure PlC (p:Plan):Prop where
 pg:OkG p.Gr
 pc:OkC p.Ct
 pd:zew p.Ct=true→p.Ct.Most-p.Ct.Least<8
 pt:1≤p.Trustees∧p.Trustees≤4
 ph:1≤p.Threshold∧p.Threshold≤p.Trustees
 pm:0≤p.Mixers∧p.Mixers≤3
 pv:1≤p.Voters∧p.Voters≤12
 ps:zaX p.Seed=true
theorem zAY(h:RcO l x):seN x:=by
 obtain⟨rfl,hr,_⟩:=h;have hp:=(zjh hr).2.1
 have hb:∀p∈x.Proofs++[x.Sum],ziJ p:=fun p q=>by
  have:=(zbP.1 (hp p q)).1;have:=zmO p;exact⟨by omega,by omega,by omega⟩
 have hs:=hb x.Sum (by simp);exact⟨fun p q=>(hb p (List.mem_append_left _ q)).1,hs.1,hs.2.1,hs.2.2⟩
noncomputable def zff(p:Plan)(key:Int)(e:Entry):Option Nat:=match zco p key e with
 |some (y,true)=>some y.Voter.toNat
 |_=>none
theorem zyR(o:PlC p)(hk:zaq p.Gr key=true){e:Entry}(he:e.Data.length≤1048576):
 ∃x y t,zcz p key e=some (x,t)∧zco p key e=some (y,t)∧(t=false→zff p key e=none)∧(t=true→∃v:Nat,x.Voter=(v:Int)∧y.Voter=(v:Int)∧(v:Int)<p.Voters∧zff p key e=some v):=by
 obtain⟨x,y,t,h1,h2,h3⟩:=zDd he
 have fin:∀{r:Option (Sealed×Bool)}{q:Option (Sealed×Bool)}{x0 y0:Sealed}{t0:Bool},r=some (x0,t0)→q=some (y0,t0)→q=zco p key e→(t0=true→x0=y0∧inB 0 999999 y0.Voter=true∧y0.Voter<p.Voters)→
  ∃x y t,r=some (x,t)∧q=some (y,t)∧(t=false→zff p key e=none)∧(t=true→∃v:Nat,x.Voter=(v:Int)∧y.Voter=(v:Int)∧(v:Int)<p.Voters∧zff p key e=some v):=by
  intro r q x0 y0 t0 hr hq hqe ht;refine⟨x0,y0,t0,hr,hq,fun h0=>?_,fun h0=>?_⟩
  ·unfold zff;rw[←hqe,hq,h0]
  ·obtain⟨rfl,hv,hv2⟩:=ht h0;have hv:=ze7.1 hv;obtain⟨v,e1⟩:=Int.eq_ofNat_of_zero_le hv.1;refine⟨v,e1,e1,by omega,?_⟩;unfold zff;rw[←hqe,hq,h0];show some x0.Voter.toNat=some v;rw[e1,Int.toNat_natCast]
 have hS:∀{y0:Sealed}{t0:Bool},zco p key e=some (y0,t0)→True:=fun _=>trivial
 cases t with
 |false=>
  refine fin (x0:=⟨0,[],[],⟨[],[],[]⟩⟩) (y0:=⟨0,[],[],⟨[],[],[]⟩⟩) (t0:=false) ?_ ?_ rfl (by simp)
  ·unfold zcz;rw[h1];rfl
  ·unfold zco;rw[h2];rfl
 |true=>
  obtain⟨rfl,hR⟩:=h3 rfl;have hx:=zAY hR;have hv:=ze7.1 hR.2.2;have b1:=zBJ o.pg hk o.pc o.pd hx;have b2:=zBp o.pg hk o.pc o.pd hx;have ov:=o.pv;have hw:i64.wrap (p.Voters-1)=p.Voters-1:=zaj (by omega) (by omega)
  have iI:zcz p key e=(if((e.Kind !=3)||((e.Author !=i64.wrap (i64.wrap (i64.wrap (1+p.Trustees)+p.Mixers)+y.Voter))||decide (p.Voters≤y.Voter)))=true then some (⟨0,[],[],⟨[],[],[]⟩⟩,false)else if seB p.Gr key p.Ct y=true then some (y,true)else some (⟨0,[],[],⟨[],[],[]⟩⟩,false)):=by
   unfold zcz zfA;rw[h1];simp only[Option.bind_some,Bool.not_true,Bool.false_eq_true,if_false,zd8,hw,b1]
   have:(decide (0≤y.Voter)&&decide (y.Voter≤p.Voters-1))= !decide (p.Voters≤y.Voter):=by
    rw[decide_eq_true hv.1,Bool.true_and];by_cases h:p.Voters≤y.Voter
    ·rw[decide_eq_true h,decide_eq_false (by omega)];rfl
    ·rw[decide_eq_false h,decide_eq_true (by omega)];rfl
   rw[this];cases (e.Kind !=3)<;>cases (e.Author !=i64.wrap (i64.wrap (i64.wrap (1+p.Trustees)+p.Mixers)+y.Voter))<;>cases decide (p.Voters≤y.Voter)<;>cases seB p.Gr key p.Ct y<;>rfl
  have iS:zco p key e=(if((e.Kind !=3)||((e.Author !=i64.wrap (i64.wrap (i64.wrap (1+p.Trustees)+p.Mixers)+y.Voter))||decide (p.Voters≤y.Voter)))=true then some (⟨0,[],[],⟨[],[],[]⟩⟩,false)else some (y,seB p.Gr key p.Ct y)):=by
   unfold zco zhm;rw[h2];simp only[Option.bind_some,Bool.not_true,Bool.false_eq_true,if_false,b2];cases (e.Kind !=3)<;>cases (e.Author !=i64.wrap (i64.wrap (i64.wrap (1+p.Trustees)+p.Mixers)+y.Voter))<;>cases decide (p.Voters≤y.Voter)<;>rfl
  cases hg:((e.Kind !=3)||((e.Author !=i64.wrap (i64.wrap (i64.wrap (1+p.Trustees)+p.Mixers)+y.Voter))||decide (p.Voters≤y.Voter)))with
  |true=>
   rw[hg,if_pos rfl]at iI iS;exact fin iI iS rfl (by simp)
  |false=>
   rw[hg,if_neg (by simp)]at iI iS;cases hs:seB p.Gr key p.Ct y with
   |false=>
    rw[hs,if_neg (by simp)]at iI;rw[hs]at iS;exact fin iI iS rfl (by simp)
   |true=>
    rw[hs,if_pos rfl]at iI;rw[hs]at iS;refine fin iI iS rfl fun _=>⟨rfl,hR.2.2,?_⟩
    simp only[Bool.or_eq_false_iff,decide_eq_false_iff_not]at hg;omega
def zgk(b:Entry→Option Nat):List Entry→Nat→List Int→List Int
 |[],_,l=>l
 |e::E,i,l=>if e.Kind==4 then l else match b e with
  |some v=>zgk b E (i+1) (l.set v (i:Int))
  |none=>zgk b E (i+1) l
theorem zjE{b:Entry→Option Nat}:∀(E:List Entry) (i:Nat) (l:List Int),(zgk b E i l).length=l.length
 |[],_,l=>rfl
 |e::E,i,l=>by
  unfold zgk;split
  ·rfl
  ·split
   ·rw[zjE E];simp
   ·rw[zjE E]
theorem zya :Rn (zaR l) fun z=>(z=-1∧∀x∈l,0≤x)∨∃i:Nat,z=(i:Int)∧i<l.length∧(l.take i).filter (fun x=>decide (0≤x))=l.take i∧∀h:i<l.length,l[i]<0:=by
 unfold zaR;refine zag (ψ:=fun o=>(o=.inl ()∧∀x∈l,0≤x)∨∃i:Nat,o=.inr (i:Int)∧i<l.length∧(∀x∈l.take i,0≤x)∧∀h:i<l.length,l[i]<0) (zaQ (fun i _=>∀x∈l.take i,0≤x) (by simp) ?_ fun s h=>.inl ⟨rfl,by rwa [List.take_length]at h⟩) ?_
 ·intro i s hi h;refine zbm hi (zae (a:=decide (l[i]<0)) rfl (zan (fun h2=>zab (.inr ⟨i,rfl,hi,h,fun _=>of_decide_eq_true h2⟩)) fun h2=>zab fun x hx=>?_));rw[List.take_succ_eq_append_getElem hi]at hx;rcases List.mem_append.1 hx with hx|hx
  ·exact h x hx
  rw[List.mem_singleton.1 hx];have:=of_decide_eq_false h2;omega
 rintro o (⟨rfl,h⟩|⟨i,rfl,h1,h2,h3⟩)
 ·exact zab (.inl ⟨rfl,h⟩)
 exact zab (.inr ⟨i,rfl,h1,List.filter_eq_self.2 fun x hx=>decide_eq_true (h2 x hx),h3⟩)
theorem zDp(hl:l.length≤1000):zaI l=some (l.filter fun x=>decide (0≤x)):=by
 unfold zaI;refine zal (zag zya ?_);rintro z (⟨rfl,h⟩|⟨i,rfl,h1,h2,h3⟩)
 ·exact zgA rfl (zab (List.filter_eq_self.2 fun x hx=>decide_eq_true (h x hx)).symm)
 refine zbd (beq_eq_false_iff_ne.2 (by omega)) ?_;have w1:i64.wrap ((i:Int)+1)=((i+1:Nat):Int):=by rw[zaj (by omega) (by omega)];rfl
 rw[w1];refine zag (ψ:=fun c=>∃k:Nat,c.2=(k:Int)∧k<l.length∧c.1.length=l.length∧c.1.take k=l.filter fun x=>decide (0≤x)) (zbi (l.length-(i+1)) (fun j s=>∃k:Nat,s.2.1=(k:Int)∧s.2.2=((i+1+j:Nat):Int)∧k<i+1+j∧s.1.length=l.length∧s.1.drop (i+1+j)=l.drop (i+1+j)∧s.1.take k=(l.take (i+1+j)).filter fun x=>decide (0≤x)) ⟨i,rfl,rfl,by omega,rfl,rfl,?_⟩ ?_ ?_) ?_
 ·rw[Nat.add_zero,List.take_succ_eq_append_getElem h1,List.filter_append,h2];have:=h3 h1;rw[List.filter_cons_of_neg (by simp;omega)];simp
 ·rintro j ⟨s,k,m⟩ hj ⟨k',e1,e2,e3,e4,e5,e6⟩;have e1:k=(k':Int):=e1;have e2:m=((i+1+j:Nat):Int):=e2;subst e1;subst e2;have e4:s.length=l.length:=e4;obtain⟨q,hq⟩:∃q,q=i+1+j:=⟨_,rfl⟩
  rw[←hq]at e3 e5 e6⊢;have e5:s.drop q=l.drop q:=e5;have e6:s.take k'=(l.take q).filter fun x=>decide (0≤x):=e6
  have hqs:q<s.length:=by omega
  have hql:q<l.length:=by omega
  have hqe:s[q]=l[q]:=by
   have a1:=List.drop_eq_getElem_cons hqs;have a2:=List.drop_eq_getElem_cons hql;rw[e5,a2]at a1;exact(List.cons.inj a1).1.symm
  have w2:i64.wrap ((q:Int)+1)=((i+1+(j+1):Nat):Int):=by rw[zaj (by omega) (by omega)];omega
  have ht:l.take (i+1+(j+1))=l.take q++[l[q]]:=by
   rw[show i+1+(j+1)=q+1 by omega];exact List.take_succ_eq_append_getElem hql
  have hd:∀(s':List Int),s'.drop q=l.drop q→s'.drop (i+1+(j+1))=l.drop (i+1+(j+1)):=fun s' h=>by
   rw[show i+1+(j+1)=q+1 by omega,←List.drop_drop,←List.drop_drop,h]
  refine zgA (decide_eq_true (by dsimp only;omega)) (zag (ψ:=fun c=>∃k2:Nat,c.2=(k2:Int)∧k2<q+1∧c.1.length=l.length∧c.1.drop (i+1+(j+1))=l.drop (i+1+(j+1))∧c.1.take k2=(l.take (i+1+(j+1))).filter fun x=>decide (0≤x)) (zbm (k:=q) hqs (zae (a:=decide (s[q]<0)) rfl (zan (fun h=>?_) fun h=>?_))) ?_)
  ·have h:¬s[q]<0:=by simpa using h
   have hk:k'<s.length:=by omega
   refine zbm (k:=k') hk (zab ⟨k'+1,?_,by omega,by simp;omega,?_,?_⟩)
   ·show i64.wrap ((k':Int)+1)=_;rw[zaj (by omega) (by omega)];rfl
   ·refine hd _ ?_;show(s.set (k':Int).toNat s[q]).drop q=l.drop q;rw[Int.toNat_natCast,List.drop_set_of_lt (by omega),e5]
   show(s.set (k':Int).toNat s[q]).take (k'+1)=_;rw[ht,List.filter_append,←e6,List.filter_cons_of_pos (by rw[←hqe];exact decide_eq_true (by omega)),Int.toNat_natCast,List.take_succ_eq_append_getElem (by simp;omega),List.take_set_of_le (by omega),List.getElem_set_self,hqe];rfl
  ·have h:s[q]<0:=by simpa using h
   refine zab ⟨k',rfl,by omega,e4,hd _ e5,?_⟩;show s.take k'=_;rw[ht,List.filter_append,←e6,List.filter_cons_of_neg (by rw[←hqe];simp;omega)];simp
  rintro⟨s2,m2⟩ ⟨k2,g1,g2,g3,g4,g5⟩;have g1:m2=(k2:Int):=g1;subst g1;exact zab ⟨k2,rfl,w2,by omega,g3,g4,g5⟩
 ·rintro⟨s,k,m⟩ ⟨k',e1,e2,e3,e4,e5,e6⟩;have e1:k=(k':Int):=e1;have e2:m=((i+1+(l.length-(i+1)):Nat):Int):=e2;subst e1;subst e2;have e4:s.length=l.length:=e4;have hq:i+1+(l.length-(i+1))=l.length:=by omega
  rw[hq]at e3 e6⊢;refine zbd (decide_eq_false (by dsimp only;omega)) (zab ⟨k',rfl,e3,e4,?_⟩);rw[List.take_length]at e6;exact e6
 rintro⟨s,k⟩ ⟨k',e1,e2,e3,e4⟩;have e1:k=(k':Int):=e1;subst e1;have e3:s.length=l.length:=e3;have e4:s.take k'=_:=e4;dsimp only;rw[Int.toNat_natCast];refine zas (by omega) (zas (by omega) (zas (by omega) (zae rfl (zas (by omega) (zas (by simp;omega) (zab ?_))))));rw[List.take_append_of_le_length (by rw[List.length_take];omega),List.take_take,Nat.min_self];exact e4
noncomputable def znS(p:Plan)(key:Int)(b:Board):List Int:=(zgk (zff p key) b.Entries 0 (List.replicate p.Voters.toNat (-1))).filter fun x=>decide (0≤x)
theorem zqd(f:Entry→Option Nat){E:List Entry}{i:Nat}(hi:i<E.length)(l:List Int):zgk f (E.drop i) i l=if E[i].Kind==4 then l else match f E[i]with
 |some v=>zgk f (E.drop (i+1)) (i+1) (l.set v (i:Int))
 |none=>zgk f (E.drop (i+1)) (i+1) l:=by
 rw[List.drop_eq_getElem_cons hi];rfl
theorem zri(f:Entry→Option Nat)(E:List Entry)(i:Nat)(l:List Int):zgk f (E.drop E.length) i l=l:=by rw[List.drop_length];rfl
theorem zz5(o:PlC p)(hk:zaq p.Gr key=true)(hb:zgN b):zdW p key b=some (znS p key b):=by
 have ov:=o.pv;obtain⟨V,hV⟩:=Int.eq_ofNat_of_zero_le (show 0≤p.Voters by omega)
 have hrep:zbl [(-1)] p.Voters=some (List.replicate p.Voters.toNat (-1)):=by
  unfold zbl;rw[zbI (by simp;omega)];rfl
 unfold zdW znS;have hlen:=zjE (b:=zff p key) b.Entries 0 (List.replicate p.Voters.toNat (-1));rw[List.length_replicate]at hlen;have hVn:p.Voters.toNat=V:=by rw[hV,Int.toNat_natCast]
 rw[hVn]at hlen⊢;refine zal (zae (by rw[hrep,hVn]) (zag (ψ:=(· =zgk (zff p key) b.Entries 0 (List.replicate V (-1)))) (zaQ (fun i s=>s.length=V∧zgk (zff p key) (b.Entries.drop i) i s=zgk (zff p key) b.Entries 0 (List.replicate V (-1))) ⟨by simp,rfl⟩ ?_ fun s h=>by rw[←h.2,zri]) ?_))
 ·rintro i s hi ⟨h1,h2⟩;rw[zqd _ hi]at h2;obtain⟨x,y,t,b1,_,b3,b4⟩:=zyR o hk (hb.2.2 _ (List.getElem_mem hi)).1;refine zag (ψ:=fun c=>c=.inr (.out (zgk (zff p key) b.Entries 0 (List.replicate V (-1))))∨∃s2:List Int,c=.inl s2∧s2.length=V∧zgk (zff p key) (b.Entries.drop (i+1)) (i+1) s2=zgk (zff p key) b.Entries 0 (List.replicate V (-1))) (zbm hi (zan (fun h=>?_) fun h=>?_)) ?_
  ·rw[h,if_pos rfl]at h2;exact zab (.inl (by rw[←h2]))
  ·rw[h,if_neg (by simp)]at h2;refine zae b1 (zan (fun ht=>?_) fun ht=>?_)
   ·obtain⟨v,e1,_,e3,e4⟩:=b4 ht;rw[e4]at h2;dsimp only;rw[e1];refine zbm (k:=v) (by omega) (zab (.inr ⟨_,rfl,by simp[h1],?_⟩));rw[Int.toNat_natCast];exact h2
   rw[b3 ht]at h2;exact zab (.inr ⟨s,rfl,h1,h2⟩)
  rintro c (rfl|⟨s2,rfl,k⟩)
  ·exact zab rfl
  exact zab k
 rintro _ rfl;exact zae (zDp (by omega)) (zab rfl)
theorem zxE(V:Nat):zau (σ:=(List Int)) (fun i16 s15=>
 (ix s15 i16).bind fun x22=>
 some (.go (s15.set i16.toNat (-1)))) (fun s15=>s15) V 0 (List.replicate V 0)=some (List.replicate V (-1)):=by
 refine zal (zaQ (fun i s=>s=List.replicate i (-1)++List.replicate (V-i) 0∧i≤V) ⟨rfl,by omega⟩ ?_ fun s h=>by rw[h.1,Nat.sub_self];simp);rintro i s hi ⟨rfl,_⟩;refine zbm (by simp;omega) (zab ⟨?_,by omega⟩);have h1:(List.replicate i (-1:Int)).length=i:=List.length_replicate ..;rw[Int.toNat_natCast,show V-i=(V-(i+1))+1 by omega,List.replicate_succ,List.set_append_right _ _ (by rw[h1];exact Nat.le_refl _),h1,Nat.sub_self,List.set_cons_zero,List.replicate_succ'];simp
theorem zxn(hR:R.length≤1000):zau (σ:=(List Int)) (fun i70 s69=>
 (((ix R i70).bind fun x79=>
 if decide (0≤x79)=true then(
 gd ((s69.length+1)*8≤140737488355328∧s69.length+1≤4611686018427387904)<|
 some (s69++[x79]))else(
 some s69):Option ((List Int))).bind fun x78=>
 some (.go x78))) (fun s69=>s69) (R.length) 0 []=some (R.filter fun x=>decide (0≤x)):=by
 refine zal (zaQ (fun i s=>s=(R.take i).filter (fun x=>decide (0≤x))∧s.length≤i) ⟨rfl,by simp⟩ ?_ fun s h=>by rw[h.1,List.take_length]);rintro i s hi ⟨rfl,h1⟩;have ht:=List.take_succ_eq_append_getElem hi;refine zag (ψ:=fun c=>c=(R.take (i+1)).filter (fun x=>decide (0≤x))∧c.length≤i+1) (zbm hi (zan (fun h=>zas (by omega) (zab ⟨?_,by simp;omega⟩)) fun h=>zab ⟨?_,by omega⟩)) fun c k=>zab k
 ·rw[ht,List.filter_append,List.filter_cons,if_pos h];rfl
 rw[ht,List.filter_append,List.filter_cons,if_neg (by rw[h];simp)];simp
theorem zxr(o:PlC p)(key:Int)(b:Board):(znS p key b).length≤12:=by
 have ov:=o.pv;unfold znS;refine Nat.le_trans (List.length_filter_le _ _) ?_;rw[zjE,List.length_replicate];omega
theorem zBK(h:zc7 p=some true):PlC p:=by
 obtain⟨b,s1,_,s3⟩:=zv6 p;rw[h]at s1;cases s1;obtain⟨g,c,_,t,m,v,s⟩:=s3 rfl;exact⟨g,c,fun hf=>zDq (zvA h) g c hf,by omega,⟨t.1,t.2.1⟩,m,v,s⟩
theorem zsc{gr:Group}(k:OkG gr):∀{o l:List Int},o.all (zaq gr)=true→l.all (zaq gr)=true→(zeM gr o l).all (zaq gr)=true
 |[],l,_,_=>by cases l<;>rfl
 |x::o,[],_,_=>rfl
 |x::o,y::l,h1,h2=>by
  rw[List.all_cons,Bool.and_eq_true]at h1 h2;show(zaq gr (zc4 gr [x,y])&&(zeM gr o l).all (zaq gr))=true;rw[zBx k h1.1 h2.1,zsc k h1.2 h2.2];rfl
theorem zpV{gr:Group}(k:OkG gr){h:Nat}:∀{L:List Entry}{o:List Int},o.length=h→o.all (zaq gr)=true→(∀e∈L,gdE gr (h:Int) e=true)→(L.foldl (zg0 gr) o).length=h∧(L.foldl (zg0 gr) o).all (zaq gr)=true
 |[],o,h1,h2,_=>⟨h1,h2⟩
 |e::L,o,h1,h2,h3=>by
  have hg:=h3 e (by simp);unfold gdE at hg;rw[Bool.and_eq_true]at hg
  have hl : e.Data.length = h := by have:(e.Data.length:Int)=(h:Int):=by simpa using hg.1
                                    omega
  refine zpV k (L:=L) (o:=zeM gr o e.Data) ?_ (zsc k h2 hg.2) fun e he=>h3 e (List.mem_cons_of_mem _ he)
  unfold zeM;rw[List.length_zipWith];omega
theorem zzj(gr:Group)(hl:zgN b):∃X t,zdQ gr b=some (X,t)∧zbX gr b=some (if t=true then(X.commits,true)else([],false))∧
 (t=true→X.p.Gr=gr∧zc7 X.p=some true∧(∃o,zbK gr b=some (o,true)∧zeB gr o=some X.p)∧(X.commits.length:Int)=X.p.Threshold∧X.commits.all (zaq gr)=true):=by
 have bad:∀{o:Opening},zcB gr b=some (o,false)→zbX gr b=some ([],false):=fun h=>by
  unfold zbX;rw[h];rfl
 have badS:∀{p:Plan},zeq gr b=some (p,false)→zdQ gr b=some (uX.mk (Plan.mk (Group.mk 0 0 0) (Contest.mk 0 0 0 0 0) 0 0 0 0 0) [],false):=fun h=>by
  unfold zdQ;rw[h];rfl
 have hO:zcB gr b=(zev gr b).bind fun z1=>if(!z1)=true then some (Opening.mk (Contest.mk 0 0 0 0 0) 0 0 0 0,false)else(zbK gr b).bind fun z3=>some (z3.1,z3.2):=by
  unfold zcB;rfl
 rw[zuj gr hl,Option.bind_some]at hO;cases hg:okG gr with
 |false=>
  rw[hg]at hO;refine⟨_,false,badS (p:=⟨⟨0,0,0⟩,⟨0,0,0,0,0⟩,0,0,0,0,0⟩) ?_,bad (o:=⟨⟨0,0,0,0,0⟩,0,0,0,0⟩) hO,by simp⟩;unfold zeq;rw[zgI,hg];rfl
 |true=>
  have k:=zly.1 hg;cases hb:zpJ gr b with
  |false=>
   rw[hg,hb]at hO;refine⟨_,false,badS (p:=⟨⟨0,0,0⟩,⟨0,0,0,0,0⟩,0,0,0,0,0⟩) ?_,bad (o:=⟨⟨0,0,0,0,0⟩,0,0,0,0⟩) hO,by simp⟩;unfold zeq;rw[zgI,hg,Option.bind_some,(zps k hl).1,hb];rfl
  |true=>
   obtain⟨p,t,o,s1,s2,s3⟩:=zxv hg hl hb;rw[hg,hb,s2]at hO;have hO':zcB gr b=some (o,t):=hO;cases t with
   |false=>exact⟨_,false,badS s1,bad hO',by simp⟩
   |true=>
    obtain⟨⟨q1,q2,q3,q4,q5,q6⟩,q7,q8⟩:=s3 rfl;obtain⟨T,hT⟩:=Int.eq_ofNat_of_zero_le (show 0≤p.Trustees by omega);obtain⟨h,hh⟩:=Int.eq_ofNat_of_zero_le (show 0≤p.Threshold by omega);subst q3;obtain⟨r,r1,r2⟩:=zzT (p:=p) (b:=b) (T:=T) (h:=h) k hl.2.1 hT hh (by omega) (by omega);obtain⟨r',u1,u2⟩:=zzw (o:=o) (T:=T) (h:=h) k hl.2.1 hO' (q2.trans hT) (q1.trans hh) (by omega) (by omega);obtain⟨e1,e2⟩:=zxD p.Gr h b.Entries T
    have hS:zdQ p.Gr b=some (uX.mk p r.1,r.2):=by
     unfold zdQ;rw[s1,Option.bind_some,if_neg (by simp),r1];rfl
    rcases r2 with⟨a1,rfl⟩|⟨a1,rfl⟩
    ·rcases u2 with⟨b1,rfl⟩|⟨b1,rfl⟩
     ·have hf:List.foldl (zg0 p.Gr) (List.replicate h 1) (b.Entries.filter (zbO T))=List.foldl (zg0 p.Gr) (List.replicate h 1) ((List.range T).flatMap fun i=>b.Entries.filter (pick 2 ((i+1:Nat):Int))):=zuF (f:=zg0 p.Gr) (fun z x y=>zwJ p.Gr z x.Data y.Data) e1 _;have hm:=zpV k (L:=b.Entries.filter (zbO T)) (o:=List.replicate h 1) (h:=h) (by simp) (List.all_eq_true.2 fun x hx=>by rw[(List.mem_replicate.1 hx).2];exact zza k) b1.2.1;rw[hf]at hm;refine⟨_,true,hS,?_,fun _=>⟨rfl,q7,⟨o,s2,q8⟩,?_,hm.2⟩⟩
      ·rw[u1,if_pos rfl];show some (List.foldl (zg0 p.Gr) (List.replicate h 1) (b.Entries.filter (zbO T)),true)=_;rw[hf]
      ·rw[hh];exact congrArg _ hm.1
     ·exact absurd (e2.1 a1) b1
    ·rcases u2 with⟨b1,rfl⟩|⟨b1,rfl⟩
     ·exact absurd (e2.2 b1) a1
     ·exact⟨_,false,hS,by rw[u1];rfl,by simp⟩
noncomputable def zi2(f:Entry→Option Nat):List Entry→Nat→List Int
 |[],_=>[]
 |e::E,i=>if e.Kind==4 then[]else match f e with
  |some v=>(i:Int)::zi2 f E (i+1)
  |none=>zi2 f E (i+1)
theorem zws(f:Entry→Option Nat){E:List Entry}{i:Nat}(hi:i<E.length):zi2 f (E.drop i) i=if E[i].Kind==4 then[]else match f E[i]with
 |some v=>(i:Int)::zi2 f (E.drop (i+1)) (i+1)
 |none=>zi2 f (E.drop (i+1)) (i+1):=by
 rw[List.drop_eq_getElem_cons hi];rfl
theorem zra(f:Entry→Option Nat):∀(E:List Entry) (i:Nat),(zi2 f E i).length≤E.length
 |[],_=>by simp[zi2]
 |e::E,i=>by
  have:=zra f E (i+1);unfold zi2;split
  ·simp
  ·split<;>simp<;>omega
theorem zA5{X:uX}(o:PlC X.p)(hb:zgN b)(hk0:ix X.commits 0=some key)(hk:zaq X.p.Gr key=true):zei X b=some (znS X.p key b,zi2 (zff X.p key) b.Entries 0):=by
 have ov:=o.pv;obtain⟨V,hV⟩:=Int.eq_ofNat_of_zero_le (show 0≤X.p.Voters by omega);have hVn:X.p.Voters.toNat=V:=by rw[hV,Int.toNat_natCast]
 have hlen:=zjE (b:=zff X.p key) b.Entries 0 (List.replicate V (-1));rw[List.length_replicate]at hlen;have hE:=hb.2.1;obtain⟨R,hR⟩:∃R,R=zgk (zff X.p key) b.Entries 0 (List.replicate V (-1)):=⟨_,rfl⟩
 obtain⟨A,hA⟩:∃A,A=zi2 (zff X.p key) b.Entries 0:=⟨_,rfl⟩
 have hAl:A.length≤1048576:=by rw[hA];exact Nat.le_trans (zra _ _ _) hE
 unfold zei znS;rw[hVn,←hR,←hA];rw[←hR]at hlen;refine zal (zas (by omega) (zae rfl (zae (by rw[List.length_replicate];exact zxE V) (zag (ψ:=(· =(R,A))) (zaQ (fun i s=>s.1.length=V∧((s.2.2=false∧zgk (zff X.p key) (b.Entries.drop i) i s.1=R∧s.2.1++zi2 (zff X.p key) (b.Entries.drop i) i=A)∨(s.2.2=true∧s.1=R∧s.2.1=A))) ⟨by simp,.inl ⟨rfl,hR.symm,hA.symm⟩⟩ ?_ ?_) ?_))))
 ·rintro i ⟨s,a,c⟩ hi ⟨h1,h2⟩;have h1:s.length=V:=h1;obtain⟨x,y,t,_,b2,b3,b4⟩:=zyR o hk (hb.2.2 _ (List.getElem_mem hi)).1;rw[zqd _ hi,zws _ hi]at h2
  have hal:a.length≤1048576:=by
   rcases h2 with⟨_,_,h2⟩|⟨_,_,h2⟩
   ·have:=congrArg List.length h2;rw[List.length_append]at this;have e:(s,a,c).2.1.length=a.length:=rfl;omega
   ·have h2:a=A:=h2;rw[h2];exact hAl
  refine zag (ψ:=fun c2=>c2.1.length=V∧((c2.2.2=false∧zgk (zff X.p key) (b.Entries.drop (i+1)) (i+1) c2.1=R∧c2.2.1++zi2 (zff X.p key) (b.Entries.drop (i+1)) (i+1)=A)∨(c2.2.2=true∧c2.1=R∧c2.2.1=A))) (zbm hi (zag (ψ:=(· =(c||(b.Entries[i].Kind==4)))) (zan (fun h=>zab (by have h:c=true:=h;rw[h];rfl)) fun h=>zab (by have h:c=false:=h;rw[h];rfl)) ?_)) fun c2 k=>zab (show _∧_ from k)
  rintro _ rfl;refine zae hk0 (zae b2 (zag (ψ:=(· =(t&& !(c||(b.Entries[i].Kind==4))))) (zan (fun h=>zab (by have h:t=true:=h;rw[h];rfl)) fun h=>zab (by have h:t=false:=h;rw[h];rfl)) ?_));rintro _ rfl;refine zan (fun h=>?_) fun h=>?_
  ·rw[Bool.and_eq_true,Bool.not_eq_true',Bool.or_eq_false_iff]at h;obtain⟨ht,hc,h4⟩:=h;subst hc;obtain⟨v,_,e2,e3,e4⟩:=b4 ht;rcases h2 with⟨_,g1,g2⟩|⟨g0,_⟩
   ·rw[h4,if_neg (by simp),e4]at g1 g2;dsimp only at g1 g2⊢;rw[e2];refine zbm (k:=v) (by omega) (zas (by omega) (zab ⟨by simp[h1],.inl ⟨by rw[h4];rfl,?_,?_⟩⟩))
    ·rw[Int.toNat_natCast];exact g1
    show a++[(i:Int)]++_=A;rw[List.append_assoc];exact g2
   cases g0
  refine zab ⟨h1,?_⟩;rcases h2 with⟨g0,g1,g2⟩|⟨g0,g1,g2⟩
  ·have g0:c=false:=g0;subst g0;cases h4:(b.Entries[i].Kind==4)with
   |true=>
    rw[h4,if_pos rfl]at g1 g2;refine .inr ⟨rfl,g1,?_⟩;rw[List.append_nil]at g2;exact g2
   |false=>
    rw[h4]at h
    have ht:t=false:=by cases t with
     |false=>rfl
     |true=>cases h
    rw[h4,if_neg (by simp),b3 ht]at g1 g2;exact .inl ⟨rfl,g1,g2⟩
  have g0:c=true:=g0;subst g0;exact .inr ⟨rfl,g1,g2⟩
 ·rintro⟨s,a,c⟩ ⟨_,⟨_,g1,g2⟩|⟨_,g1,g2⟩⟩
  ·rw[zri]at g1;rw[List.drop_length]at g2;have g2:a++[]=A:=g2;rw[List.append_nil]at g2;have g1:s=R:=g1;rw[g1,g2]
  have g1:s=R:=g1;have g2:a=A:=g2;rw[g1,g2]
 rintro _ rfl;exact zae (zxn (by dsimp only;omega)) (zab rfl)
theorem zG3(gr:Group)(hb:zgN b):∃l t,zcr gr b=some (l,t)∧zb4 gr b=some (l,t)∧l.length≤12:=by
 obtain⟨X,t,s1,s2,s3⟩:=zzj gr hb;cases t with
 |false=>
  refine⟨[],false,?_,?_,by simp⟩
  ·unfold zcr;rw[s1];rfl
  ·unfold zb4;rw[s2];rfl
 |true=>
  obtain⟨g1,g2,⟨o,g3,g4⟩,g5,g6⟩:=s3 rfl;have pl:=zBK g2;have oh:=pl.ph;have h0:0<X.commits.length:=by omega
  have hx:ix X.commits 0=some X.commits[0]:=zaY (k:=0) h0;have hk:zaq X.p.Gr X.commits[0]=true:=by rw[g1];exact List.all_eq_true.1 g6 _ (List.getElem_mem h0)
  rw[if_pos rfl]at s2;refine⟨znS X.p X.commits[0] b,true,?_,?_,zxr pl _ _⟩
  ·unfold zcr;rw[s1,Option.bind_some,if_neg (by simp),zA5 pl hb hx hk];rfl
  ·unfold zb4;rw[s2,Option.bind_some,if_neg (by simp),g3,Option.bind_some,hx,Option.bind_some,g4,Option.bind_some,zz5 pl hk hb];rfl
theorem zCg(gr:Group)(b:Board)(hb:zgN b):zb2 gr b=some true:=by
 obtain⟨l,t,s1,s2,s3⟩:=zG3 gr hb;obtain⟨z,z1,z2,z3⟩:=zHC hb;obtain⟨r,r1,r2,r3⟩:=zjr l 1 (by omega) (by omega) (by omega);have h1:=zzG r 1 (by omega) (by omega) (by omega) r3;have e1:zbE l l=some true:=ziD (by omega);have tg:zeU gr=some gr:=rfl;unfold zb2;refine zzq (zEc hb (by omega) (by omega)) fun n1 a1 b1=>?_
 have g1:¬z<0:=by omega
 have g2:¬1+(l.length:Int)<0:=by omega
 simp only[tg,zGS hb,s1,s2,e1,zKC hb,z1,r1,h1,r2,Option.bind_some];simp[g1,g2]
end Go.Pm
