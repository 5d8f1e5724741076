/-
  FnExactAuditDay: plain laws.
  No condition.
-/
import Derived.Test.YtnbbkiilkaebaaaGreatDoorY38
namespace Go.Pm
open Go.Am
set_option linter.unusedVariables false
set_option linter.unusedSimpArgs false
theorem zxH {s:Session}(h:seL s):zdC s s=some true:=by
 unfold zdC
 simp only[zsU h.1,zsU h.2,bne_self_eq_false,Bool.not_true,Bool.false_eq_true,if_false,Option.bind_some]
theorem zxp {l:List Int}{k:Int}(h:l.length≤1048576) (h0:0≤k∧k≤1048576):Rn (zeO l k) (fun z=>z=-1∨0≤z∧z≤1048576):=by
 unfold zeO
 rw[zag (n:=k-(l.length:Int)) (by omega) (by omega)]
 refine zbo (fun _=>zae (.inl rfl)) fun g=>zae (.inr ?_)
 have:=of_decide_eq_false g
 omega
theorem zyh {s:Session}(h:seL s) {k:Int}(h0:0≤k∧k≤1048576):Rn (zeC s k) (fun z=>z=-1∨0≤z∧z≤1048576):=by
 unfold zeC
 refine zav (zxp h.1 h0) fun z hz=>zbo (fun _=>zae (.inl rfl)) fun g=>?_
 have:=of_decide_eq_false g
 refine zav (zxp h.2 (by omega)) fun y hy=>zbo (fun _=>zae (.inl rfl)) fun g=>zae hy
noncomputable def zqK (gr:Group) (key:Int) (ct:Contest) (s:Session):Bool:= !s.Cast&&match zcI gr key ct s with
 |some y=> !y.1|| !y.2
 |none=>false
noncomputable def zgQ (gr:Group) (key:Int) (ct:Contest) (l:List Session):Nat→List Int
 |0=>[]
 |i+1=>if zqK gr key ct (l.getD i ⟨0,[],[],0,false⟩)=true then zgQ gr key ct l i++[(i:Int)]else zgQ gr key ct l i
theorem zsc (gr:Group) (key:Int) (ct:Contest) (l:List Session):∀i,(zgQ gr key ct l i).length≤i
 |0=>Nat.le_refl 0
 |i+1=>by
  have h:=zsc gr key ct l i
  rw[zgQ]
  split
  ·rw[List.length_append];simp;omega
  ·omega
theorem zxk {l:List Session}{i:Nat}(hi:i<l.length):l.getD i ⟨0,[],[],0,false⟩=l[i]:=by simp[List.getD,hi]
theorem zzs (gr:Group) (key:Int) (ct:Contest) {l:List Session}(h:∀s∈l,s.Vote.length≤1048576):∃y,zdX gr key ct l=some y∧zeQ gr key ct l=some y∧y.1.length≤24:=by
 obtain⟨b,s1,s2,s3⟩:=znM gr ct
 unfold zdX zeQ
 rw[s1,s2]
 cases b with
 |false=>exact⟨([],false),rfl,rfl,by simp⟩
 |true=>
  obtain⟨kg,kc⟩:=s3 rfl
  simp only[ztS kg,zuK kg,Bool.not_true,Bool.false_eq_true,if_false,Option.bind_some,zh7]
  cases hok:(!zaD gr key||decide (24<(l.length:Int)))with
  |true=>exact⟨([],false),rfl,rfl,by simp⟩
  |false=>
   simp only[Bool.or_eq_false_iff,decide_eq_false_iff_not]at hok
   have hn:l.length≤24:=by omega
   have hl:=zsc gr key ct l
   refine⟨(zgQ gr key ct l l.length,true),zah (za8 rfl (zad (a:=zgQ gr key ct l l.length) ?_ (zae rfl))),zah (za8 rfl (zad (a:=zgQ gr key ct l l.length) ?_ (zae rfl))),Nat.le_trans (hl _) hn⟩
   ·refine zhR (stop:=fun s=>s) (zgQ gr key ct l) rfl fun i hi=>?_
    have hli:=hl i
    obtain⟨y,y1,y2⟩:=zvm gr key ct (h _ (List.getElem_mem hi))
    have hb:zqK gr key ct l[i]=(!l[i].Cast&&(!y.1|| !y.2)):=by unfold zqK;rw[y2]
    rw[zgQ,zxk hi,hb]
    refine zav (ψ:=(· =if(!l[i].Cast&&(!y.1|| !y.2))=true then zgQ gr key ct l i++[(i:Int)]else zgQ gr key ct l i)) (za6 hi (zad y1 ?_)) (by rintro _ rfl;exact zae rfl)
    obtain⟨a,c⟩:=y
    cases l[i].Cast<;>cases a<;>cases c<;>first
     |exact zad (a:=true) rfl (zgT rfl (zap (by omega) (zae rfl)))
     |exact zad (a:=false) rfl (za8 rfl (zae rfl))
   ·refine zhR (stop:=fun s=>s) (zgQ gr key ct l) rfl fun i hi=>?_
    have hli:=hl i
    obtain⟨y,y1,y2⟩:=zvm gr key ct (h _ (List.getElem_mem hi))
    have hb:zqK gr key ct l[i]=(!l[i].Cast&&(!y.1|| !y.2)):=by unfold zqK;rw[y2]
    rw[zgQ,zxk hi,hb]
    refine zav (ψ:=(· =if(!l[i].Cast&&(!y.1|| !y.2))=true then zgQ gr key ct l i++[(i:Int)]else zgQ gr key ct l i)) (za6 hi ?_) (by rintro _ rfl;exact zae rfl)
    obtain⟨a,c⟩:=y
    cases hc:l[i].Cast with
    |true=>exact zgT rfl (zae rfl)
    |false=>
     refine za8 rfl (zad y2 ?_)
     cases a<;>cases c<;>first
      |exact zgT rfl (zap (by omega) (zae rfl))
      |exact za8 rfl (zae rfl)
theorem zzf {α:Type}{v:List α}{d:α}{F:α→Option α}(hF:∀x∈v,F x=some x) (h:v.length≤1048576):zaN (σ:=(List α)×Int) (fun s16=>
 if decide (s16.2<(v.length:Int))=true then(
 (ix v s16.2).bind fun x22=>
 (F x22).bind fun z23=>
 (ix s16.1 s16.2).bind fun x24=>
 some (.go (s16.1.set s16.2.toNat z23,IntKind.i64.wrap (s16.2+1))))else(
 some (.out s16.1))) (List.replicate v.length d,0)=some v:=by
 refine zah (ze6 v.length (fun i s=>s=(v.take i++List.replicate (v.length-i) d,(i:Int))∧i≤v.length) ⟨rfl,by omega⟩ ?_ ?_)
 ·rintro i s hi ⟨rfl,_⟩
  have hl:(v.take i++List.replicate (v.length-i) d).length=v.length:=by simp;omega
  refine zgT (by simpa using hi) (za6 hi (zad (hF _ (List.getElem_mem hi)) (za6 (by rw[hl];exact hi) (zae ⟨?_,by omega⟩))))
  have hr:List.replicate (v.length-i) d=d::List.replicate (v.length-(i+1)) d:=by rw[show v.length-i=(v.length-(i+1))+1 by omega];rfl
  have ht:(v.take i).length=i:=by rw[List.length_take];omega
  have hset:(v.take i++List.replicate (v.length-i) d).set i v[i]=v.take (i+1)++List.replicate (v.length-(i+1)) d:=by
   rw[hr,List.set_append_right _ _ (by omega),ht,Nat.sub_self,List.take_succ_eq_append_getElem hi,List.append_assoc];rfl
  dsimp only
  rw[Int.toNat_natCast,hset,zag (n:=(i:Int)+1) (by omega) (by omega)];rfl
 rintro s ⟨rfl,_⟩
 exact za8 (by simp) (zae (show v.take v.length++List.replicate (v.length-v.length) d=v by simp))
theorem zwC {l:List Session}(hl:l.length≤1048576) (h:∀s∈l,seL s):zb6 l=some l:=by
 unfold zb6
 rw[zcu (by omega),Option.bind_some,zzf (fun s hs=>zyo (h s hs)) hl];rfl
theorem zwZ {l:List Session}(hl:l.length≤1048576) (h:∀s∈l,seL s):zd9 l l=some true:=by
 unfold zd9
 rw[if_neg (by simp)]
 have e:=zvg (β:=Bool) (step:=fun s5=>
  if decide (s5<(l.length:Int))=true then(
  (ix l s5).bind fun x11=>
  (ix l s5).bind fun x12=>
  (zdC x11 x12).bind fun z13=>
  if(!z13)=true then(
  some (.out (.inr false)))else(
  some (.go (IntKind.i64.wrap (s5+1)))))else(
  some (.out (.inl ())))) l.length (fun k hk=>by
   rw[if_pos (by simpa using hk),zdO hk,Option.bind_some,Option.bind_some,zxH (h _ (List.getElem_mem hk)),Option.bind_some,if_neg (by simp),zag (n:=(k:Int)+1) (by omega) (by omega)];rfl) (by rw[if_neg (by simp)])
 rw[e];rfl
theorem zww {l:List Session}(hl:l.length≤1048576) (h:∀s∈l,seL s):Rn (zea l 1048576) (fun _=>True):=by
 unfold zea
 rw[zag (n:=1048576-(l.length:Int)) (by omega) (by omega)]
 refine zbo (fun _=>zae trivial) fun _=>zav (ψ:=fun _=>True) (ze6 l.length (fun i s=>(0≤s.1∧s.1≤1048576)∧s.2=(i:Int)) ⟨by dsimp only;omega,rfl⟩ ?_ ?_) fun v _=>?_
 ·rintro i ⟨k,j⟩ hi ⟨h1,h2⟩
  simp only at h1 h2
  subst h2
  refine zgT (by simpa using hi) (za6 hi (zav (zyh (h _ (List.getElem_mem hi)) h1) fun z hz=>zbo (fun _=>zae trivial) fun g=>zae ?_))
  have:=of_decide_eq_false g
  rw[zag (n:=(i:Int)+1) (by omega) (by omega)]
  exact⟨by dsimp only;omega,rfl⟩
 ·rintro⟨k,j⟩ ⟨h1,h2⟩
  simp only at h2
  subst h2
  exact za8 (by simp) (zae trivial)
 cases v<;>exact zae trivial
theorem zws {l:List Session}(hl:l.length≤1048576) (h:∀s∈l,seL s):Rn (zcj l 1) (fun z=>0≤z.1):=by
 unfold zcj
 refine zav (ψ:=fun v=>0≤v.2) (ze6 l.length (fun i s=>s.1.length=l.length∧(∀x∈s.1,seL x)∧(0≤s.2.1∧s.2.1≤1+(i:Int)*3000000)∧s.2.2=(i:Int)) ⟨rfl,h,by simp,rfl⟩ ?_ ?_) fun v hv=>zae hv
 ·rintro i ⟨r,k,j⟩ hi ⟨h1,h2,h3,h4⟩
  simp only at h1 h2 h3 h4
  subst h4
  have hir:i<r.length:=by omega
  have hs:=h2 _ (List.getElem_mem hir)
  have w1:IntKind.i64.wrap (k+1)=k+1:=zag (by omega) (by omega)
  obtain⟨m,m1,m2,_⟩:=zol r[i].Vote (k+1) (by omega) (by have:=hs.1;omega) hs.1
  obtain⟨c,c1,c2,_⟩:=zol r[i].Coins (k+1+r[i].Vote.length) (by omega) (by have:=hs.1;have:=hs.2;omega) hs.2
  refine zgT (by simp;omega) (za6 hir ?_)
  dsimp only
  rw[w1]
  refine zad m1 (zad c1 (zae ?_))
  have hs1:=hs.1
  have hs2:=hs.2
  dsimp only
  rw[zag (n:=k+1+(r[i].Vote.length:Int)+(r[i].Coins.length:Int)+1) (by omega) (by omega),zag (n:=k+1+(r[i].Vote.length:Int)+(r[i].Coins.length:Int)+1+1) (by omega) (by omega),zag (n:=(i:Int)+1) (by omega) (by omega)]
  refine⟨by simpa using h1,fun x hx=>?_,⟨by dsimp only;omega,by dsimp only;omega⟩,rfl⟩
  dsimp only at hx
  simp only[List.set_set]at hx
  rcases List.mem_or_eq_of_mem_set hx with hx|rfl
  ·exact h2 x hx
  exact⟨by show m.length≤_;omega,by show c.length≤_;omega⟩
 rintro⟨r,k,j⟩ ⟨h1,h2,h3,h4⟩
 simp only at h1 h3 h4
 exact za8 (by simp;omega) (zae h3.1)
theorem zBO (gr:Group) (key:Int) (ct:Contest) (l:List Session) (hl:l.length≤1048576) (h:∀s∈l,seL s):zcJ gr key ct l=some true:=by
 unfold zcJ
 refine zah (zav (zww hl h) fun z _=>zbo (fun _=>zae rfl) fun _=>?_)
 have ht:=zwC hl h
 have he:=zwZ hl h
 have hg:zer gr=some gr:=rfl
 have hc:zdG ct=some ct:=rfl
 obtain⟨y,y1,y2,y3⟩:=zzs gr key ct fun s hs=>(h s hs).1
 have hy:=zsU (v:=y.1) (by omega)
 obtain⟨m,m1,m2,m3⟩:=zol y.1 1 (by omega) (by omega) (by omega)
 have hh:=zxw m 1 (by omega) (by omega) (by omega) m3
 rw[m2]at hh
 refine zad hg (zad hc (zad ht (zad y2 (zad ht (zad hg (zad hc (zad y1 (zav (ψ:=(· =false)) (zad hy (za8 rfl (zae (by simp)))) ?_))))))))
 rintro _ rfl
 refine za8 rfl (zad ht (zad he (za8 rfl (zav (zws hl h) fun w hw=>zav (ψ:=(· =false)) (za8 (by simpa using hw) (zad hy (za8 rfl (zae (by simp))))) ?_))))
 rintro _ rfl
 refine za8 rfl (zad m1 (zad hh (za8 (by simp;omega) (za8 (by simp) (zad hg (zad hc (zad ht (zad y1 (zav (ψ:=(· =false)) (zad hy (za8 rfl (zae (by simp)))) ?_)))))))))
 rintro _ rfl
 exact za8 rfl (zad hh (za8 (by simp;omega) (za8 (by simp) (zae rfl))))
end Go.Pm
