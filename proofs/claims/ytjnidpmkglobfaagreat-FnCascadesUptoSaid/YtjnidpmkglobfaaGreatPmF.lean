import Derived.Test.YtjnidpmkglobfaaGreatPmE
open Bool renaming false→Z,true→O
open Option renaming none→aa,some→J
set_option linter.defProp false
namespace Go.Pm
open Go.Am
def Ez:=@List.mem_of_mem_take
def HM:=@List.mem_of_mem_drop
def dv:PV->Bool
 | .az=>O
 |_=>Z
def oY{x:PV}(h:dv x=Z):x≠.az:=by rintro rfl;cases h
def nz(e:Nat):Value->PV
 | .bool b=>.bool b
 | .int k n=>.int k n
 | .string s=>.str s
 | .pointer aa=>.gy
 | .nilFunc=>.fX
 | .nilIface=>.gU
 | .slice aa 0 0=>.sl O e []
 | .agg cs=>.agg (cs.toList.map λ
  | .bool b=>.bool b
  | .int k n=>.int k n
  | .string s=>.str s
  | .pointer aa=>.gy
  | .nilFunc=>.fX
  | .nilIface=>.gU
  | .slice aa 0 0=>.sl O 0 []
  |_=>.az)
 |_=>.az
def Fx(b a:Nat):PV->Option PV
 | .sl o d c=>if b<=a/\a<=c.length then J (.sl o d ((c.take a).drop b))else aa
 |_=>aa
def yu(j n:Nat)(r:List PV):Option PV:=if j+n<=r.length then J (.agg ((r.drop j).take n))else aa
def d5(Y:ae):PF->Option PV
 | .v x=>J x
 | .rf s p=>cj Y s p
 | .rv s p b a=>(cj Y s p).bind (Fx b a)
 | .ra s p i j n=>((cj Y s p).bind (mp i)).bind (yu j n)
 |_=>aa
def zW(b:Bool)(x:PV)(Y:ae)(s:Nat)(p:aB):Option (PV×ae):=
 if b=O then(iL Y s p .az).map λa=>(x,a)else J (x,Y)
def AF(Y:ae)(t:Nat)(x:PV):Option (PV×ae):=if dv x=O then aa else zW (bI x) x Y t []
def L7(Y:ae)(s:Nat)(p:aB)(y:Option PV):Option (PV×ae):=
 match y with
 |some x=>if dv x=O then aa else zW (bI x) x Y s p
 |none=>aa
def EW(Y:ae)(s:Nat)(p:aB)(d a:Nat)(y:Option PV):Option (PV×ae):=
 match y with
 |some (.sl O c b)=>if d<=a/\a<=b.length then
  if d=0 then(iL Y s p .az).map λe=>(.sl O c (b.take a),e)
  else(iL Y s p (drop (.sl O c b))).map λe=>(.sl Z c (((b.map (·.map drop)).take a).drop d),e)
  else aa
 |some (.sl Z c b)=>if d<=a/\a<=b.length then J (.sl Z c ((b.take a).drop d),Y)else aa
 |_=>aa
def Jw(x:PV):PV:=if bI x=O then .az else x
def LV(Y:ae)(s:Nat)(p:aB)(i j:Nat)(y:Option PV):Option (PV×ae):=
 match y with
 |some (.agg a)=>if bI (.agg a)=O then(mK Y s p i j (a.map Jw)).map λb=>(.agg a,b)else J (.agg a,Y)
 |_=>aa
def ml(Y:ae)(t:Nat):PF->Option (PV×ae)
 | .v x=>AF Y t x
 | .ls a d=>J (.sl O a d,(Y.bV t jP).kill t 0)
 | .rf s p=>L7 Y s p (cj Y s p)
 | .rv s p c b=>EW Y s p c b (cj Y s p)
 | .ra s p i j n=>LV Y s p i j (d5 Y (.ra s p i j n))
 |_=>aa
def eJ(e:Nat)(Y:ae):Operand->Option (PV×ae)
 | .tmp t=>ml Y t (Y t)
 | .const c=>if cD c then J (nz e c,Y)else aa
 | .func f=>J (.func (.func f) [] [],Y)
 | .global _=>aa
def qJ(Y:ae):List (Nat×Operand)->Option (List PV×ae)
 |[]=>J ([],Y)
 |x::c=>(eJ x.1 Y x.2).bind λa=>(qJ a.2 c).map λb=>(a.1::b.1,b.2)
section
variable {W:Nat}{T:List (Nat×Value)}{U E R:Env}{Y:ae}{X S:FR}
variable{v:Value}
def JS{e:Nat}{c:Value}(h:cD c=O)(l:Lo):PR E l (nz e c) c:=by
 cases c with
 |bool b=>exact .bool b
 |int k n=>exact .int k n
 |string s=>exact .str s
 |nilFunc=>exact .fX
 |nilIface=>exact .gU
 |pointer p=>cases p with
  |none=>exact .gy
  |some p=>simp[cD]at h
 |slice p n k=>
  cases p with
  |some p=>simp[cD]at h
  |none=>
   cases n with
   |succ n=>simp[cD]at h
   |zero=>
    cases k with
    |succ k=>simp[cD]at h
    |zero=>exact .sl0 O e
 |agg cs=>
  refine .agg (by simp) λj x y f a=>?_
  obtain⟨w,d,rfl⟩:=mM f;rw[d]at a;cases a;simp only[cD,bc]at h;have:=h _ (eD d);cases y with
  |bool b=>exact .bool b
  |int k n=>exact .int k n
  |string s=>exact .str s
  |nilFunc=>exact .fX
  |nilIface=>exact .gU
  |pointer p=>cases p with
   |none=>exact .gy
   |some p=>simp at this
  |slice p n k=>
   cases p with
   |some p=>simp at this
   |none=>
    cases n with
    |succ n=>simp at this
    |zero=>
     cases k with
     |succ k=>simp at this
     |zero=>exact .sl0 O 0
  |_=>simp at this
 |_=>simp[cD]at h
def PR.cut{l:Lo}{b lo hi:Nat}{f:List (List PV)}{a:Addr}{n c:Nat}(h:PR E l (.sl Z b f) (.slice (J a) n c))(B:lo<=hi)(o:hi<=n):
 a=⟨a.block,a.off,J b⟩/\f.length=n/\n<=c/\PR E l (.sl Z b ((f.take hi).drop lo)) (.slice (J ⟨a.block,a.off+lo*b,J b⟩) (hi-lo) (c-lo)):=by
 cases h with
 | @jX _ id off b n c k f p q w s C z u t=>
  refine⟨rfl,w,s,.jX p q (by simp;omega) (by omega) (by omega) (λr A=>z r (Ez (HM A))) ⟨u.1,?_⟩ λi r j x y d g m=>?_⟩
  ·have e:lo*b+(hi-lo)*b=hi*b:=by rw[<-oF];congr 1;omega
   have:=gN b o;show off+lo*b+(hi-lo)*b<=k.cells.length;omega
  ·rw[jq,my]at d;split at d
   ·exact t (lo+i) r j x y d g (by rw[<-m];show k.cells[off+(lo+i)*b+j]? =k.cells[off+lo*b+i*b+j]?;congr 1;rw[oF];omega)
   ·cases d
def PR.a35{l:Nat×aB}{d e:Nat}{f:List (List PV)}{a:Addr}{n c:Nat}(h:PR E (J l) (.sl O d f) (.slice (J a) n c))(A:e<=n):
 a=⟨a.block,a.off,J d⟩/\f.length=n/\PR E (J l) (.sl O d (f.take e)) (.slice (J a) e c):=by
 cases h with
 |fN u o p g t B C w s q=>
  refine⟨rfl,t,.fN u o p g (by simp;omega) (by omega) (by omega) (λr z=>w r (Ez z)) s λi r j x y b k m=>?_⟩;rw[my]at b;split at b
  ·exact q i r j x y b k m
  ·cases b
def FY{s:Nat}(h:Wk E X s [] v):X s=.v v:=by
 rcases h with⟨q,b,a⟩|⟨c,d,e,y,b,a,_⟩
 ·rw[b];have:v=q:=a;rw[this]
 ·cases a
def N2{a:List (PV×Value)}(b:eA W E a){x:PV}{l:Lo}(h:PR E l x v)(c:bI x=Z):eA W E (a++[(x,v)]):=b.snoc (h.free c).up
def jb{s:Nat}{p:aB}(r:au W T U E Y X)(h:Wk E X s p v){x:PV}(e:cj Y s p=J x):p≠[]\/∃y,Y s=.v y:=by
 by_cases c:p=[]
 ·subst c;right;have f:=FY h;have d:=r.f s;cases b:Y s with
  |v y=>exact⟨y,rfl⟩
  |bl i=>
   rw[b]at d;obtain⟨g,a,_⟩:=d;rw[f]at a;cases a
  |_=>simp[cj,b,fS]at e
 ·exact .inl c
def Nw{p:aB}{a:Nat×Nat}:p++[a]≠[]:=by simp
def zzk{z:PV}{i j:Nat}{r:List PV}(h:mp i z=J r):iK z (i,j)=r[j]? :=by
 cases z with
 |sl o a c=>cases o<;>simp[mp]at h;simp[iK,h]
 |bx b=>simp only[mp]at h;split at h<;>simp_all [iK]
 |_=>simp[mp]at h
end
end Go.Pm
