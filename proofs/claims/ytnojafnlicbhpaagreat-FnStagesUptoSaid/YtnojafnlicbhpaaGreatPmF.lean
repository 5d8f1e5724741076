import Derived.Test.YtnojafnlicbhpaaGreatPmE
open Bool renaming false→aa,true→Z
open Option renaming none→ae,some→J
set_option linter.defProp false
namespace Go.Pm
open Go.Am
def Gy:=@List.mem_of_mem_take
def OC:=@List.mem_of_mem_drop
def dt:PV->Bool
 | .au=>Z
 |_=>aa
def n5{x:PV}(h:dt x=aa):x≠.au:=by rintro rfl;cases h
def nb(e:Nat):Value->PV
 | .bool b=>.bool b
 | .int k n=>.int k n
 | .string s=>.str s
 | .pointer ae=>.fZ
 | .nilFunc=>.fB
 | .nilIface=>.gG
 | .slice ae 0 0=>.sl Z e []
 | .agg cs=>.agg (cs.toList.map λ
  | .bool b=>.bool b
  | .int k n=>.int k n
  | .string s=>.str s
  | .pointer ae=>.fZ
  | .nilFunc=>.fB
  | .nilIface=>.gG
  | .slice ae 0 0=>.sl Z 0 []
  |_=>.au)
 |_=>.au
def FF(lo hi:Nat):PV->Option PV
 | .sl o es rows=>if lo<=hi/\hi<=rows.length then J (.sl o es ((rows.take hi).drop lo))else ae
 |_=>ae
def yb(j n:Nat)(r:List PV):Option PV:=if j+n<=r.length then J (.agg ((r.drop j).take n))else ae
def dR(pf:ah):PF->Option PV
 | .v x=>J x
 | .rf s p=>cj pf s p
 | .rv s p lo hi=>(cj pf s p).bind (FF lo hi)
 | .ra s p i j n=>((cj pf s p).bind (lF i)).bind (yb j n)
 |_=>ae
def zT(b:Bool)(x:PV)(pf:ah)(s:Nat)(p:aA):Option (PV×ah):=
 if b=Z then(iw pf s p .au).map λpf'=>(x,pf')else J (x,pf)
def zF(pf:ah)(t:Nat)(x:PV):Option (PV×ah):=if dt x=Z then ae else zT (bK x) x pf t []
def Hx(pf:ah)(s:Nat)(p:aA)(y:Option PV):Option (PV×ah):=
 match y with
 |some x=>if dt x=Z then ae else zT (bK x) x pf s p
 |none=>ae
def Eb(pf:ah)(s:Nat)(p:aA)(lo hi:Nat)(y:Option PV):Option (PV×ah):=
 match y with
 |some (.sl Z es rows)=>if lo<=hi/\hi<=rows.length then
  if lo=0 then(iw pf s p .au).map λpf'=>(.sl Z es (rows.take hi),pf')
  else(iw pf s p (drop (.sl Z es rows))).map λpf'=>(.sl aa es (((rows.map (·.map drop)).take hi).drop lo),pf')
  else ae
 |some (.sl aa es rows)=>if lo<=hi/\hi<=rows.length then J (.sl aa es ((rows.take hi).drop lo),pf)else ae
 |_=>ae
def JA(x:PV):PV:=if bK x=Z then .au else x
def Hu(pf:ah)(s:Nat)(p:aA)(i j:Nat)(y:Option PV):Option (PV×ah):=
 match y with
 |some (.agg xs)=>if bK (.agg xs)=Z then(mz pf s p i j (xs.map JA)).map λpf'=>(.agg xs,pf')else J (.agg xs,pf)
 |_=>ae
def lz(pf:ah)(t:Nat):PF->Option (PV×ah)
 | .v x=>zF pf t x
 | .ls es rows=>J (.sl Z es rows,(pf.bS t jP).kill t 0)
 | .rf s p=>Hx pf s p (cj pf s p)
 | .rv s p lo hi=>Eb pf s p lo hi (cj pf s p)
 | .ra s p i j n=>Hu pf s p i j (dR pf (.ra s p i j n))
 |_=>ae
def eu(e:Nat)(pf:ah):Operand->Option (PV×ah)
 | .tmp t=>lz pf t (pf t)
 | .const c=>if ct c then J (nb e c,pf)else ae
 | .func f=>J (.func (.func f) [] [],pf)
 | .global _=>ae
def pX(pf:ah):List (Nat×Operand)->Option (List PV×ah)
 |[]=>J ([],pf)
 |x::xs=>(eu x.1 pf x.2).bind λa=>(pX a.2 xs).map λb=>(a.1::b.1,b.2)
section
variable {nt:Nat}{pin:List (Nat×Value)}{E0 E E':Env}{pf:ah}{fr ai:FR}
variable{v:Value}
def IP{e:Nat}{c:Value}(h:ct c=Z)(l:Lo):PR E l (nb e c) c:=by
 cases c with
 |bool b=>exact .bool b
 |int k n=>exact .int k n
 |string s=>exact .str s
 |nilFunc=>exact .fB
 |nilIface=>exact .gG
 |pointer p=>cases p with
  |none=>exact .fZ
  |some p=>simp[ct]at h
 |slice p n k=>
  cases p with
  |some p=>simp[ct]at h
  |none=>
   cases n with
   |succ n=>simp[ct]at h
   |zero=>
    cases k with
    |succ k=>simp[ct]at h
    |zero=>exact .sl0 Z e
 |agg cs=>
  refine .agg (by simp) λj x y hx hy=>?_
  obtain⟨w,ie,rfl⟩:=mc hx;rw[ie]at hy;cases hy;simp only[ct,bm]at h;have:=h _ (eo ie);cases y with
  |bool b=>exact .bool b
  |int k n=>exact .int k n
  |string s=>exact .str s
  |nilFunc=>exact .fB
  |nilIface=>exact .gG
  |pointer p=>cases p with
   |none=>exact .fZ
   |some p=>simp at this
  |slice p n k=>
   cases p with
   |some p=>simp at this
   |none=>
    cases n with
    |succ n=>simp at this
    |zero=>
     cases k with
     |succ k=>simp at this
     |zero=>exact .sl0 Z 0
  |_=>simp at this
 |_=>simp[ct]at h
def PR.cut{l:Lo}{es lo hi:Nat}{rows:List (List PV)}{a:Addr}{n c:Nat}(h:PR E l (.sl aa es rows) (.slice (J a) n c))(h1:lo<=hi)(h2:hi<=n):
 a=⟨a.block,a.off,J es⟩/\rows.length=n/\n<=c/\PR E l (.sl aa es ((rows.take hi).drop lo)) (.slice (J ⟨a.block,a.off+lo*es,J es⟩) (hi-lo) (c-lo)):=by
 cases h with
 | @jF _ id off es n c k rows hG hb hn hc hm hr hl hh=>
  refine⟨rfl,hn,hc,.jF hG hb (by simp;omega) (by omega) (by omega) (λr gX=>hr r (Gy (OC gX))) ⟨hl.1,?_⟩ λi r j x y g1 g2 g3=>?_⟩
  ·have e:lo*es+(hi-lo)*es=hi*es:=by rw[<-nT];congr 1;omega
   have:=gA es h2;show off+lo*es+(hi-lo)*es<=k.cells.length;omega
  ·rw[jd,l6]at g1;split at g1
   ·exact hh (lo+i) r j x y g1 g2 (by rw[<-g3];show k.cells[off+(lo+i)*es+j]? =k.cells[off+lo*es+i*es+j]?;congr 1;rw[nT];omega)
   ·cases g1
def PR.a1M{l:Nat×aA}{es hi:Nat}{rows:List (List PV)}{a:Addr}{n c:Nat}(h:PR E (J l) (.sl Z es rows) (.slice (J a) n c))(h2:hi<=n):
 a=⟨a.block,a.off,J es⟩/\rows.length=n/\PR E (J l) (.sl Z es (rows.take hi)) (.slice (J a) hi c):=by
 cases h with
 |fk how hG hb bc hn hc hm hr hl hh=>
  refine⟨rfl,hn,.fk how hG hb bc (by simp;omega) (by omega) (by omega) (λr gX=>hr r (Gy gX)) hl λi r j x y g1 g2 g3=>?_⟩;rw[l6]at g1;split at g1
  ·exact hh i r j x y g1 g2 g3
  ·cases g1
def Di{s:Nat}(h:Wk E fr s [] v):fr s=.v v:=by
 rcases h with⟨q,w1,w2⟩|⟨cells,j',p',y,w1,w2,_⟩
 ·rw[w1];have:v=q:=w2;rw[this]
 ·cases w2
def N7{fl:List (PV×Value)}(hfl:d9 nt E fl){x:PV}{l:Lo}(h:PR E l x v)(ho:bK x=aa):d9 nt E (fl++[(x,v)]):=hfl.snoc (h.free ho).up
def iQ{s:Nat}{p:aA}(r:aq nt pin E0 E pf fr)(h:Wk E fr s p v){x:PV}(hg:cj pf s p=J x):p≠[]\/∃y,pf s=.v y:=by
 by_cases h0:p=[]
 ·subst h0;right;have hv:=Di h;have hf:=r.f s;cases fH:pf s with
  |v y=>exact⟨y,rfl⟩
  |bl row=>
   rw[fH]at hf;obtain⟨cells,c1,_⟩:=hf;rw[hv]at c1;cases c1
  |_=>simp[cj,fH,fD]at hg
 ·exact .inl h0
def Lk{p:aA}{a:Nat×Nat}:p++[a]≠[]:=by simp
def zzy{z:PV}{i j:Nat}{r:List PV}(h:lF i z=J r):iv z (i,j)=r[j]? :=by
 cases z with
 |sl o es rows=>cases o<;>simp[lF]at h;simp[iv,h]
 |bx row=>simp only[lF]at h;split at h<;>simp_all [iv]
 |_=>simp[lF]at h
end
end Go.Pm
