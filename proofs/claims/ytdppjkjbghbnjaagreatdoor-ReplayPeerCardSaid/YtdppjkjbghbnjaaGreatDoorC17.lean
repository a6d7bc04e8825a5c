import Derived.Test.YtdppjkjbghbnjaaGreatDoorC16
set_option maxHeartbeats 4000000
set_option maxRecDepth 100000
set_option linter.all false
namespace Go.Proofs.YtdppjkjbghbnjaaGreatDoor
theorem yL(cs:List Int)(a b:List (Int × Int)):gR cs (a++b)=gR (gR cs b) a:=by unfold gR;rw[List.foldr_append]
theorem us(cs:List Int):∀es:List (Int × Int),(gR cs es).length=cs.length
 | []=>rfl
 | e::es=>by
  show ((gR cs es).set _ _).length=_;rw[List.length_set,us cs es]
def lH(M:MemS)(n:Nat):MemS:=⟨gR M.cs (M.lg.drop n),M.lg.take n,M.base⟩
def ig(M:MemS)(n:Nat):MemS:=⟨M.cs,M.lg.drop n,M.base+(n:Int)⟩
structure Rst(M:MemS)(mk:Int)(c:List Int):Prop where
 lo:M.base <= mk
 hi:mk <= M.base+(M.lg.length:Int)
 und:gR M.cs (M.lg.drop (mk-M.base).toNat)=c
 ent:∀e∈M.lg.drop (mk-M.base).toNat,0 <= e.1 /\ e.1<(M.cs.length:Int)
theorem Rst.now(M:MemS):Rst M (M.base+(M.lg.length:Int)) M.cs:=by
 have e:(M.base+(M.lg.length:Int)-M.base).toNat=M.lg.length:=by omega
 refine⟨by omega,by omega,?_,?_⟩
 ·rw[e,List.drop_length];rfl
 ·rw[e,List.drop_length];intro e he;cases he
theorem Rst.tick{M:MemS}{mk:Int}{c:List Int}(g:Gm)(h:Rst M mk c):Rst (iq g M) mk c:=by
 obtain⟨es,h1,h2,h3⟩:=NW g M;have hl:=h.lo;have hh:=h.hi;have e:(iq g M).lg.drop (mk-M.base).toNat=M.lg.drop (mk-M.base).toNat++es:=by rw[h1,List.drop_append_of_le_length (by omega)]
 refine⟨by rw[h2];exact hl,by rw[h1,h2,aaP];omega,?_,?_⟩
 ·rw[h2,e,yL];have:=h3.und;rw[show gR (iq g M).cs es=M.cs from this];exact h.und
 ·rw[h2,e];have hlen:(iq g M).cs.length=M.cs.length:=h3.len;intro x hx;rw[hlen];rcases List.mem_append.1 hx with hx|hx
  ·exact h.ent x hx
  ·exact h3.ent x hx
theorem Rst.undo{M:MemS}{mk:Int}{c:List Int}{n:Nat}(h:Rst M mk c)(h1:mk <= M.base+(n:Int))(h2:n <= M.lg.length):Rst (lH M n) mk c:=by
 have hl:=h.lo;have e:M.lg.drop (mk-M.base).toNat=(M.lg.take n).drop (mk-M.base).toNat++M.lg.drop n:=by
  conv=>lhs;rw[<- aa8 n M.lg]
  rw[List.drop_append_of_le_length (by rw[aaQ];omega)]
 refine⟨hl,by show mk <= M.base+((M.lg.take n).length:Int);rw[aaQ,Nat.min_eq_left h2];exact h1,?_,?_⟩
 ·show gR (gR M.cs (M.lg.drop n)) ((M.lg.take n).drop (mk-M.base).toNat)=c;rw[<- yL,<- e];exact h.und
 ·intro x hx;show 0 <= x.1 /\ x.1<((gR M.cs (M.lg.drop n)).length:Int);rw[us];exact h.ent x (by rw[e];exact aaA _ hx)
theorem Rst.disc{M:MemS}{mk:Int}{c:List Int}{n:Nat}(h:Rst M mk c)(h1:M.base+(n:Int) <= mk)(h2:n <= M.lg.length):Rst (ig M n) mk c:=by
 have hh:=h.hi;have hl:=h.lo;have e:(M.lg.drop n).drop (mk-(M.base+(n:Int))).toNat=M.lg.drop (mk-M.base).toNat:=by
  rw[List.drop_drop];congr 1;omega
 refine⟨h1,by show mk <= M.base+(n:Int)+((M.lg.drop n).length:Int);rw[aaR];omega,?_,?_⟩
 ·show gR M.cs ((M.lg.drop n).drop (mk-(M.base+(n:Int))).toNat)=c;rw[e];exact h.und
 ·show ∀x∈(M.lg.drop n).drop (mk-(M.base+(n:Int))).toNat,_;rw[e];exact h.ent
section
variable {ρ:Type} (g:Nat -> ρ -> Gm)
def Bd:Nat -> List Int -> List ρ -> List Int
 | _,c,[]=>c
 | t,c,r::V=>Bd (t+1) (iq (g t r) ⟨c,[],0⟩).cs V
def FJ:Nat -> List Int -> List ρ -> List (List Eff)
 | _,_,[]=>[]
 | t,c,r::V=>pX (g t r) ⟨c,[],0⟩::FJ (t+1) (iq (g t r) ⟨c,[],0⟩).cs V
theorem rZ(r:ρ):∀ (V:List ρ) (t:Nat) (c:List Int),Bd g t c (V++[r])=(iq (g (t+V.length) r) ⟨Bd g t c V,[],0⟩).cs
 | [],_,_=>rfl
 | x::V,t,c=>by
  show Bd g (t+1) _ (V++[r])=_;rw[rZ r V (t+1)];show _=(iq (g (t+(V.length+1)) r) ⟨Bd g (t+1) _ V,[],0⟩).cs;rw[show t+1+V.length=t+(V.length+1) by omega]
theorem yM(r:ρ):∀ (V:List ρ) (t:Nat) (c:List Int),FJ g t c (V++[r])=FJ g t c V++[pX (g (t+V.length) r) ⟨Bd g t c V,[],0⟩]
 | [],_,_=>rfl
 | x::V,t,c=>by
  show _::FJ g (t+1) _ (V++[r])=_;rw[yM r V (t+1)];show _=_::(FJ g (t+1) _ V++[pX (g (t+(V.length+1)) r) ⟨Bd g (t+1) _ V,[],0⟩]);rw[show t+1+V.length=t+(V.length+1) by omega]
theorem CP:∀ (V:List ρ) (t:Nat) (c:List Int),(FJ g t c V).length=V.length
 | [],_,_=>rfl
 | x::V,t,c=>by
  show (FJ g (t+1) _ V).length+1=V.length+1;rw[CP V]
theorem yN:∀ (V:List ρ) (t:Nat) (c:List Int) (n:Nat),(FJ g t c V).take n=FJ g t c (V.take n)
 | [],_,_,n=>by cases n <;> rfl
 | x::V,t,c,0=>rfl
 | x::V,t,c,n+1=>by
  show _::(FJ g (t+1) _ V).take n=_::FJ g (t+1) _ (V.take n);rw[yN V]
structure PS(ρ:Type) where
 M:MemS
 a:Nat
 ms:List Int
 rows:List ρ
 ck:Nat
 used:List ρ
 effs:List (List Eff)
 rb:Nat
variable (c0:List Int) (w:Nat)
structure PInv(S:PS ρ)(V:List ρ)(m:Nat):Prop where
 cs:S.M.cs=Bd g 0 c0 V
 effs:S.effs=FJ g 0 c0 V
 ck:S.ck <= m
 mV:m <= V.length
 mR:m <= S.rows.length
 eq:V.take m=S.rows.take m
 used:S.used=V.drop S.ck
 win:V.length <= S.rows.length+w
 ring:(S.ms=[] /\ V=[]) \/ (S.ms≠[] /\ (S.a+S.ms.length=V.length \/ S.a+S.ms.length=V.length+1))
 rst:∀ (i:Nat) (k:Int),S.ms[i]?=some k -> Rst S.M k (Bd g 0 c0 (V.take (S.a+i)))
 mono:∀ (i j:Nat) (k l:Int),i <= j -> S.ms[i]?=some k -> S.ms[j]?=some l -> k <= l
 back:S.ms≠[] -> S.a <= m
 room:S.ms.length <= w
variable {g c0 w}
variable {S:PS ρ} {V:List ρ} {m:Nat}
theorem Be(M:MemS)(a:Nat):PInv g M.cs w (⟨M,a,[],[],0,[],[],0⟩:PS ρ) [] 0 :=
 ⟨rfl,rfl,aaK _,aaK _,aaK _,rfl,rfl,aaL _,.inl ⟨rfl,rfl⟩,λ i k h=>(by cases i <;> cases h),λ i j k l _ h=>(by cases i <;> cases h),λ h=>absurd rfl h,aaL _⟩
def pT(S:PS ρ)(r:ρ):PS ρ:={ S with rows:=S.rows++[r] }
theorem PInv.conf(h:PInv g c0 w S V m)(r:ρ):PInv g c0 w (pT S r) V m:=by
 have h1:=h.mR;refine⟨h.cs,h.effs,h.ck,h.mV,by show m <= (S.rows++[r]).length;rw[aaP];omega,?_,h.used,by show _ <= (S.rows++[r]).length+w;rw[aaP];have:=h.win;omega,h.ring,h.rst,h.mono,h.back,h.room⟩;show V.take m=(S.rows++[r]).take m;rw[List.take_append_of_le_length h1];exact h.eq
def yO(S:PS ρ)(x:Nat):PS ρ:={ S with M:=lH S.M ((S.ms.getD (x-S.a) 0)-S.M.base).toNat,ms:=S.ms.take (x-S.a+1),used:=S.used.take (x-S.ck),effs:=S.effs.take x,rb:=S.rb+1 }
theorem PInv.roll(h:PInv g c0 w S V m){x:Nat}(h1:m <= x)(h2:x<V.length)(h3:∀t,m <= t -> t<x -> V[t]?=S.rows[t]?)(h4:x <= S.rows.length):PInv g c0 w (yO S x) (V.take x) x:=by
 have hck:=h.ck;have hmV:=h.mV;have AS:S.ms≠[]:=by
  rcases h.ring with ⟨_,e⟩|⟨e,_⟩
  ·rw[e] at h2;simp at h2
  ·exact e
 have hba:=h.back AS;have hlen:x-S.a<S.ms.length:=by
  rcases h.ring with ⟨e,_⟩|⟨_,e|e⟩
  ·exact absurd e AS
  ·omega
  ·omega
 obtain⟨mk,U4⟩:∃mk,S.ms[x-S.a]?=some mk:=⟨_,aaT hlen⟩;have hr:=h.rst _ _ U4;have ZI:=hr.lo;have hhi:=hr.hi;have eg:S.ms.getD (x-S.a) 0=mk:=by rw[aaI,U4];rfl
 have ex:S.a+(x-S.a)=x:=by omega
 rw[ex] at hr;have hn:(mk-S.M.base).toNat <= S.M.lg.length:=by omega
 have hn2:S.M.base+((mk-S.M.base).toNat:Int)=mk:=by omega
 have lV:(V.take x).length=x:=by rw[aaQ];omega
 refine⟨?_,?_,by show S.ck <= x;omega,by rw[lV];exact aaK _,h4,?_,?_,by rw[lV];show x <= S.rows.length+w;omega,?_,?_,?_,λ _=>by show S.a <= x;omega,by show (S.ms.take _).length <= w;rw[aaQ];have:=h.room;omega⟩
 ·show gR S.M.cs (S.M.lg.drop (S.ms.getD (x-S.a) 0-S.M.base).toNat)=_;rw[eg];exact hr.und
 ·show S.effs.take x=_;rw[h.effs,yN]
 ·show (V.take x).take x=S.rows.take x;rw[List.take_take,Nat.min_self];apply List.ext_getElem?;intro t;rw[aa7,aa7];split
  ·next ht =>
   by_cases hm:m <= t
   ·exact h3 t hm ht
   ·have:=congrArg (·[t]?) h.eq;simpa [aa7,show t<m by omega] using this
  ·rfl
 ·show S.used.take (x-S.ck)=(V.take x).drop S.ck;rw[h.used,List.drop_take]
 ·right;refine⟨?_,.inr ?_⟩
  ·show S.ms.take (x-S.a+1)≠[];intro e;have:=congrArg List.length e;rw[aaQ,List.length_nil] at this;omega
  ·show S.a+(S.ms.take (x-S.a+1)).length=_;rw[aaQ,lV];omega
 ·intro i k hk;have hk:(S.ms.take (x-S.a+1))[i]?=some k:=hk;rw[aa7] at hk;split at hk
  ·next hi =>
   have hri:=h.rst i k hk;have hle:=h.mono i (x-S.a) k mk (by omega) hk U4;have:=hri.undo (n:=(S.ms.getD (x-S.a) 0-S.M.base).toNat) (by rw[eg];omega) (by rw[eg];exact hn);show Rst (lH S.M _) k (Bd g 0 c0 ((V.take x).take (S.a+i)));rw[List.take_take,Nat.min_eq_left (by omega)];exact this
  ·cases hk
 ·intro i j k l XZ hk hl;have hk:(S.ms.take (x-S.a+1))[i]?=some k:=hk;have hl:(S.ms.take (x-S.a+1))[j]?=some l:=hl;rw[aa7] at hk hl;split at hk
  ·split at hl
   ·exact h.mono i j k l XZ hk hl
   ·cases hl
  ·cases hk
def ee(w:Nat)(S:PS ρ)(now:Nat):PS ρ :=
 if S.ms≠[] /\ S.a+S.ms.length=now+1 then S else
 let mk:=S.M.base+(S.M.lg.length:Int)
 let a:=if S.ms=[] then now else S.a
 if w<S.ms.length+1 then { S with M:=ig S.M (((S.ms++[mk]).getD 1 0)-S.M.base).toNat,a:=a+1,ms:=(S.ms++[mk]).drop 1 } else { S with a:=a,ms:=S.ms++[mk] }
def lI(g:Nat -> ρ -> Gm)(w:Nat)(S:PS ρ)(now:Nat)(r:ρ):PS ρ :=
 { ee w S now with M:=iq (g now r) (ee w S now).M,used:=S.used++[r],effs:=S.effs++[pX (g now r) (ee w S now).M] }
structure PInvP(S:PS ρ)(V:List ρ)(m:Nat):Prop where
 inv:PInv g c0 w S V m
 full:S.ms≠[] /\ S.a+S.ms.length=V.length+1
theorem nk(w:Nat)(S:PS ρ)(now:Nat):(ee w S now).M.cs=S.M.cs /\ (ee w S now).rows=S.rows /\ (ee w S now).ck=S.ck /\ (ee w S now).used=S.used /\ (ee w S now).effs=S.effs /\ (ee w S now).rb=S.rb:=by
 unfold ee;split
 ·exact⟨rfl,rfl,rfl,rfl,rfl,rfl⟩
 ·dsimp only;split <;> exact⟨rfl,rfl,rfl,rfl,rfl,rfl⟩
theorem PInv.push(h:PInv g c0 w S V m)(hw:1 <= w)(hm:m=min V.length S.rows.length)(hv:V.length<S.rows.length+w):PInvP (g:=g) (c0:=c0) (w:=w) (ee w S V.length) V m:=by
 obtain⟨r1,r2,r3,r4,r5,r6⟩:=nk w S V.length
 by_cases hk:S.ms≠[] /\ S.a+S.ms.length=V.length+1
 ·have e:ee w S V.length=S:=by unfold ee;rw[if_pos hk]
  rw[e];exact⟨h,hk⟩
 ·-- one mark more
  have VU:=Rst.now S.M;generalize U4:S.M.base+(S.M.lg.length:Int)=mk at VU;obtain⟨a,ha⟩:∃a,a=if S.ms=[] then V.length else S.a:=⟨_,rfl⟩
  have hal:a+S.ms.length=V.length:=by
   rcases h.ring with ⟨e1,e2⟩|⟨e1,e2|e2⟩
   ·rw[ha,if_pos e1,e1];simp
   ·rw[ha,if_neg e1];exact e2
   ·exact absurd ⟨e1,e2⟩ hk
  have VH:∀ (i:Nat) (k:Int),(S.ms++[mk])[i]?=some k -> Rst S.M k (Bd g 0 c0 (V.take (a+i))):=by
   intro i k hi;rcases aaZ i S.ms.length with iF|UE
   ·rw[aaU iF] at hi;have AS:S.ms≠[]:=by intro e;rw[e] at iF;simp at iF
    have:=h.rst i k hi;rw[ha,if_neg AS];exact this
   ·rw[aaV UE] at hi;have h0:i-S.ms.length=0:=by
     rcases Nat.eq_zero_or_pos (i-S.ms.length) with h0|h0
     ·exact h0
     ·rw[List.getElem?_eq_none (by simp;omega)] at hi;cases hi
    rw[h0] at hi;have e:k=mk:=by simpa using hi.symm
    subst e;rw[show a+i=V.length by omega,List.take_length,<- h.cs];exact VU
  have By:∀ (i j:Nat) (k l:Int),i <= j -> (S.ms++[mk])[i]?=some k -> (S.ms++[mk])[j]?=some l -> k <= l:=by
   intro i j k l XZ hi hj;rcases aaZ j S.ms.length with iF|UE
   ·rw[aaU iF] at hj;rw[aaU (by omega)] at hi;exact h.mono i j k l XZ hi hj
   ·rw[aaV UE] at hj;have h0:j-S.ms.length=0:=by
     rcases Nat.eq_zero_or_pos (j-S.ms.length) with h0|h0
     ·exact h0
     ·rw[List.getElem?_eq_none (by simp;omega)] at hj;cases hj
    rw[h0] at hj;have e:l=mk:=by simpa using hj.symm
    subst e;have:=(VH i k hi).hi;omega
  by_cases hlen:w<S.ms.length+1
  ·-- the aex goes
   have e:ee w S V.length={ S with M:=ig S.M (((S.ms++[mk]).getD 1 0)-S.M.base).toNat,a:=a+1,ms:=(S.ms++[mk]).drop 1 }:=by
    unfold ee;rw[if_neg hk];dsimp only;rw[U4,if_pos hlen,<- ha]
   rw[e];have z_:=h.room;have XY:1<(S.ms++[mk]).length:=by rw[aaP,List.length_singleton];omega
   obtain⟨k1,SV⟩:∃k1,(S.ms++[mk])[1]?=some k1:=⟨_,aaT XY⟩;have eg:(S.ms++[mk]).getD 1 0=k1:=by rw[aaI,SV];rfl
   have WD:=VH 1 k1 SV;have ZI:=WD.lo;have hhi:=WD.hi;refine⟨⟨h.cs,h.effs,h.ck,h.mV,h.mR,h.eq,h.used,h.win,.inr ⟨?_,.inr ?_⟩,?_,?_,λ _=>?_,?_⟩,?_,?_⟩
   ·intro e2;have e3:((S.ms++[mk]).drop 1).length=0:=congrArg List.length e2;rw[aaR,aaP,List.length_singleton] at e3;omega
   ·show a+1+((S.ms++[mk]).drop 1).length=_;rw[aaR,aaP,List.length_singleton];omega
   ·intro i k hi;have hi:((S.ms++[mk]).drop 1)[i]?=some k:=hi;rw[aa6] at hi;have h5:=VH (1+i) k hi;have h6:=By 1 (1+i) k1 k (by omega) SV hi;have:=h5.disc (n:=((S.ms++[mk]).getD 1 0-S.M.base).toNat) (by rw[eg];omega) (by rw[eg];omega);show Rst (ig S.M _) k (Bd g 0 c0 (V.take (a+1+i)));rw[show a+1+i=a+(1+i) by omega];exact this
   ·intro i j k l XZ hi hj;have hi:((S.ms++[mk]).drop 1)[i]?=some k:=hi;have hj:((S.ms++[mk]).drop 1)[j]?=some l:=hj;rw[aa6] at hi hj;exact By (1+i) (1+j) k l (by omega) hi hj
   ·show a+1 <= m;omega
   ·show ((S.ms++[mk]).drop 1).length <= w;rw[aaR,aaP,List.length_singleton];omega
   ·intro e2;have e3:((S.ms++[mk]).drop 1).length=0:=congrArg List.length e2;rw[aaR,aaP,List.length_singleton] at e3;omega
   ·show a+1+((S.ms++[mk]).drop 1).length=_;rw[aaR,aaP,List.length_singleton];omega
  ·have e:ee w S V.length={ S with a:=a,ms:=S.ms++[mk] }:=by
    unfold ee;rw[if_neg hk];dsimp only;rw[U4,if_neg hlen,<- ha]
   rw[e];refine⟨⟨h.cs,h.effs,h.ck,h.mV,h.mR,h.eq,h.used,h.win,.inr ⟨by simp,.inr ?_⟩,VH,By,λ _=>?_,?_⟩,by simp,?_⟩
   ·show a+(S.ms++[mk]).length=_;rw[aaP,List.length_singleton];omega
   ·show a <= m
    by_cases e0:S.ms=[]
    ·rcases h.ring with ⟨_,e2⟩|⟨e1,_⟩
     ·rw[ha,if_pos e0,e2];simp
     ·exact absurd e0 e1
    ·rw[ha,if_neg e0];exact h.back e0
   ·show (S.ms++[mk]).length <= w;rw[aaP,List.length_singleton];omega
   ·show a+(S.ms++[mk]).length=_;rw[aaP,List.length_singleton];omega
theorem PInv.sim(h:PInv g c0 w S V m)(hw:1 <= w)(hm:m=min V.length S.rows.length)(hv:V.length<S.rows.length+w)(r:ρ)(hr:V.length<S.rows.length -> S.rows[V.length]?=some r):PInv g c0 w (lI g w S V.length r) (V++[r]) (min (V++[r]).length S.rows.length):=by
 obtain⟨r1,r2,r3,r4,r5,r6⟩:=nk w S V.length;obtain⟨hp,AS,UX⟩:=h.push hw hm hv;unfold lI;generalize ee w S V.length=S1 at *;have hmR:=h.mR;have hck:=h.ck;have lV:(V++[r]).length=V.length+1:=by rw[aaP];rfl
 rw[lV];refine⟨?_,?_,by show S1.ck <= _;rw[r3];omega,by rw[lV];omega,by show _ <= S1.rows.length;rw[r2];omega,?_,?_,by rw[lV];show _ <= S1.rows.length+w;rw[r2];omega,.inr ⟨AS,.inl (by rw[lV];exact UX)⟩,?_,hp.mono,λ hn=>by have:=hp.back hn;show S1.a <= _;omega,hp.room⟩
 ·show (iq (g V.length r) S1.M).cs=_;rw[rZ,Nat.zero_add];exact oS _ hp.cs
 ·show S.effs++[pX (g V.length r) S1.M]=_;rw[yM,Nat.zero_add,h.effs];congr 2;exact NT _ hp.cs
 ·show (V++[r]).take (min (V.length+1) S.rows.length)=S1.rows.take _;rw[r2]
  by_cases iF:V.length<S.rows.length
  ·have e1:min (V.length+1) S.rows.length=V.length+1:=by omega
   have e2:m=V.length:=by omega
   have heq:=h.eq;rw[e2,List.take_length] at heq;rw[e1,List.take_of_length_le (by rw[lV];exact aaK _),List.take_add_one,hr iF,<- heq];rfl
  ·have e1:min (V.length+1) S.rows.length=m:=by omega
   rw[e1,List.take_append_of_le_length (by omega)];exact h.eq
 ·show S.used++[r]=(V++[r]).drop S1.ck;rw[r3,List.drop_append_of_le_length (by have:=h.mV;omega),h.used]
 ·intro i k hi;have h5:=(hp.rst i k hi).tick (g V.length r);have XB:i<S1.ms.length:=(List.getElem?_eq_some_iff.1 hi).1;show Rst (iq (g V.length r) S1.M) k (Bd g 0 c0 ((V++[r]).take (S1.a+i)));rw[List.take_append_of_le_length (by omega)];exact h5
def L0(S:PS ρ)(now:Nat):PS ρ:={ S with used:=S.used.drop (min now S.rows.length-S.ck),ck:=min now S.rows.length }
theorem PInv.settle(h:PInv g c0 w S V m)(hm:m=min V.length S.rows.length):PInv g c0 w (L0 S V.length) V m:=by
 have hck:=h.ck;refine⟨h.cs,h.effs,by show min V.length S.rows.length <= m;omega,h.mV,h.mR,h.eq,?_,h.win,h.ring,h.rst,h.mono,h.back,h.room⟩;show S.used.drop (min V.length S.rows.length-S.ck)=V.drop (min V.length S.rows.length);rw[h.used,List.drop_drop];congr 1;omega
theorem PInv.clean(h:PInv g c0 w S V m)(hc:∀t,m <= t -> t<V.length -> t<S.rows.length -> V[t]?=S.rows[t]?):PInv g c0 w S V (min V.length S.rows.length):=by
 have h1:=h.mV;have h2:=h.mR;have h3:=h.ck;refine⟨h.cs,h.effs,by omega,by omega,by omega,?_,h.used,h.win,h.ring,h.rst,h.mono,λ e=>by have:=h.back e;omega,h.room⟩;apply List.ext_getElem?;intro t;rw[aa7,aa7];split
 ·next ht =>
  by_cases hm:m <= t
  ·exact hc t hm (by omega) (by omega)
  ·have:=congrArg (·[t]?) h.eq;simpa [aa7,show t<m by omega] using this
 ·rfl
def wr [DecidableEq ρ](rows:List ρ):Nat -> List ρ -> Option Nat
 | _,[]=>none
 | t,u::l=>match rows[t]? with
  | none=>none
  | some r=>if u=r then wr rows (t+1) l else some t
theorem CQ [DecidableEq ρ]{rows:List ρ}:∀ {l:List ρ} {t:Nat},wr rows t l=none -> ∀i,i<l.length -> t+i<rows.length -> l[i]?=rows[t+i]?
 | [],_,_,i,hi,_=>by cases hi
 | u::l,t,h,i,hi,hr=>by
  rw[wr] at h;have ht:t<rows.length:=by omega
  rw[aaT ht] at h;simp only at h;split at h
  ·next e =>
   cases i with
   | zero=>rw[Nat.add_zero,aaT ht,<- e];rfl
   | succ i =>
    have:=CQ h i (by simpa using hi) (by omega);rw[List.getElem?_cons_succ,this];congr 1;omega
  ·cases h
theorem vU [DecidableEq ρ]{rows:List ρ}:∀ {l:List ρ} {t x:Nat},wr rows t l=some x -> t <= x /\ x<t+l.length /\ x<rows.length /\ (∀i,t+i<x -> l[i]?=rows[t+i]?) /\ l[x-t]? ≠ rows[x]?
 | [],_,_,h=>by cases h
 | u::l,t,x,h=>by
  rw[wr] at h;split at h
  ·cases h
  ·next r hr =>
   have ht:t<rows.length:=(List.getElem?_eq_some_iff.1 hr).1;split at h
   ·next e =>
    obtain⟨h1,h2,h3,h4,h5⟩:=vU h;refine⟨by omega,by simp only[aaS];omega,h3,?_,?_⟩
    ·intro i hi;cases i with
     | zero=>rw[Nat.add_zero,hr,<- e];rfl
     | succ i =>
      rw[List.getElem?_cons_succ,h4 i (by omega)];congr 1;omega
    ·rw[show x-t=(x-(t+1))+1 by omega,List.getElem?_cons_succ];exact h5
   ·next e =>
    simp only[Option.some.injEq] at h;subst h;refine⟨aaK _,by simp,ht,λ i hi=>absurd hi (by omega),?_⟩;rw[Nat.sub_self,hr];intro e2;exact e (by simpa using e2)
def gn(g:Nat -> ρ -> Gm)(w:Nat)(rf:Nat -> ρ):Nat -> PS ρ -> Nat -> PS ρ
 | 0,S,_=>S
 | n+1,S,now=>gn g w rf n (lI g w S now (rf now)) (now+1)
def jD(rf:Nat -> ρ):Nat -> Nat -> List ρ
 | 0,_=>[]
 | n+1,now=>rf now::jD rf n (now+1)
theorem pq(rf:Nat -> ρ):∀ (n now:Nat),(jD rf n now).length=n
 | 0,_=>rfl
 | n+1,now=>by rw[jD,aaS,pq rf n]
theorem gE(S:PS ρ)(now:Nat)(r:ρ):(lI g w S now r).rows=S.rows /\ (lI g w S now r).rb=S.rb /\ (lI g w S now r).ck=S.ck:=by
 obtain⟨r1,r2,r3,r4,r5,r6⟩:=nk w S now;exact⟨r2,r6,r3⟩
theorem nl(rf:Nat -> ρ):∀ (n:Nat) (S:PS ρ) (now:Nat),(gn g w rf n S now).rows=S.rows /\ (gn g w rf n S now).rb=S.rb /\ (gn g w rf n S now).ck=S.ck
 | 0,_,_=>⟨rfl,rfl,rfl⟩
 | n+1,S,now=>by
  rw[gn];obtain⟨h1,h2,h3⟩:=nl rf n (lI g w S now (rf now)) (now+1);obtain⟨k1,k2,k3⟩:=gE (g:=g) (w:=w) S now (rf now);exact⟨h1.trans k1,h2.trans k2,h3.trans k3⟩
theorem pr(hw:1 <= w)(rf:Nat -> ρ):∀ (n:Nat) (S:PS ρ) (V:List ρ),PInv g c0 w S V (min V.length S.rows.length) -> V.length+n <= S.rows.length+w -> (∀t,t<S.rows.length -> S.rows[t]?=some (rf t)) ->
  PInv g c0 w (gn g w rf n S V.length) (V++jD rf n V.length) (min (V.length+n) S.rows.length)
 | 0,S,V,h,_,_=>by rw[gn,jD,List.append_nil];exact h
 | n+1,S,V,h,hn,hr=>by
  rw[gn,jD];obtain⟨k1,k2,k3⟩:=gE (g:=g) (w:=w) S V.length (rf V.length);have h1:=h.sim hw rfl (by omega) (rf V.length) (hr V.length);have lV:(V++[rf V.length]).length=V.length+1:=by rw[aaP];rfl
  have h2:=pr hw rf n (lI g w S V.length (rf V.length)) (V++[rf V.length]) (by rw[k1];exact h1) (by rw[k1,lV];omega) (by rw[k1];exact hr);rw[lV,k1,aaH] at h2;rw[show V.length+(n+1)=V.length+1+n by omega];exact h2
def adv1 [DecidableEq ρ](S:PS ρ):PS ρ:=match wr S.rows S.ck S.used with
 | some x=>yO S x
 | none=>S
def eV [DecidableEq ρ](S:PS ρ)(now:Nat):Nat:=(wr S.rows S.ck S.used).getD now
def r7 [DecidableEq ρ](g:Nat -> ρ -> Gm)(w:Nat)(S:PS ρ)(now T:Nat)(rf:Nat -> ρ):PS ρ :=
 L0 (gn g w rf (T-eV S now) (adv1 S) (eV S now)) T
def yP [DecidableEq ρ](S:PS ρ)(V:List ρ)(T:Nat)(rf:Nat -> ρ):List ρ:=V.take (eV S V.length)++jD rf (T-eV S V.length) (eV S V.length)
theorem PInv.adv1 [DecidableEq ρ](h:PInv g c0 w S V m):PInv g c0 w (adv1 S) (V.take (eV S V.length)) (min (eV S V.length) S.rows.length) /\ (Go.Proofs.YtdppjkjbghbnjaaGreatDoor.adv1 S).rows=S.rows /\ eV S V.length <= V.length /\ m <= eV S V.length /\ (Go.Proofs.YtdppjkjbghbnjaaGreatDoor.adv1 S).rb=S.rb+(if eV S V.length<V.length then 1 else 0):=by
 have hu:=h.used;have h1:=h.mV;have h2:=h.ck;have h3:=h.mR;unfold Go.Proofs.YtdppjkjbghbnjaaGreatDoor.adv1 eV;cases hx:wr S.rows S.ck S.used with
 | none =>
  have hc:=CQ hx;simp only[Option.getD_none];refine⟨?_,by trivial,aaK _,h1,by simp⟩;rw[List.take_length];refine h.clean λ t ht1 ht2 ht3=>?_;have:=hc (t-S.ck) (by rw[hu,aaR];omega) (by omega);rw[hu,aa6,show S.ck+(t-S.ck)=t by omega] at this;exact this
 | some x =>
  obtain⟨k1,k2,k3,k4,k5⟩:=vU hx;rw[hu,aaR] at k2;simp only[Option.getD_some];have hxV:x<V.length:=by omega
  have ZE:m <= x:=by
   rcases aaZ x m with iF|UE
   ·exfalso;apply k5;rw[hu,aa6,show S.ck+(x-S.ck)=x by omega];have:=congrArg (·[x]?) h.eq;simpa [aa7,iF] using this
   ·exact UE
  have hr:=h.roll ZE hxV (λ t ht1 ht2=>by
   have:=k4 (t-S.ck) (by omega);rw[hu,aa6,show S.ck+(t-S.ck)=t by omega] at this;exact this) (by omega)
  refine⟨?_,rfl,by omega,ZE,?_⟩
  ·rw[show min x S.rows.length=x by omega];exact hr
  ·rw[if_pos hxV];rfl
theorem PInv.adv [DecidableEq ρ](h:PInv g c0 w S V m)(hw:1 <= w){T:Nat}(h1:V.length <= T)(h2:T <= S.rows.length+w)(rf:Nat -> ρ)(hr:∀t,t<S.rows.length -> S.rows[t]?=some (rf t)) :
  PInv g c0 w (r7 g w S V.length T rf) (yP S V T rf) (min T S.rows.length) /\ (yP S V T rf).length=T /\ (r7 g w S V.length T rf).rows=S.rows /\ (r7 g w S V.length T rf).rb=S.rb+(if eV S V.length<V.length then 1 else 0):=by
 obtain⟨k1,k2,k3,k4,k5⟩:=h.adv1;unfold r7 yP;generalize Go.Proofs.YtdppjkjbghbnjaaGreatDoor.adv1 S=S1 at *;generalize eV S V.length=n1 at *;have lV:(V.take n1).length=n1:=by rw[aaQ];omega
 have h3:=pr hw rf (T-n1) S1 (V.take n1) (by rw[lV,k2];exact k1) (by rw[lV,k2];omega) (by rw[k2];exact hr);rw[lV,k2] at h3;obtain⟨r1,r2,r3⟩:=nl (g:=g) (w:=w) rf (T-n1) S1 n1;have lT:(V.take n1++jD rf (T-n1) n1).length=T:=by rw[aaP,pq,lV];omega
 have e:n1+(T-n1)=T:=by omega
 rw[e] at h3;have h4:=h3.settle (by rw[lT,r1,k2]);rw[lT] at h4;exact⟨h4,lT,r1.trans k2,r2.trans k5⟩
end
open Go.RowKit
theorem SlIs.dropI{α:Type}{e:Enc α}{T:TypeId}{l:List α}{A:Option Addr}{cap:Nat}{Hl:HL}(h:SlIs e T l A cap Hl){k:Nat}(hk:k=0 \/ k<l.length):SlIs e T (l.drop k) (slA A k e.w cap) (cap-k) Hl:=by
 rcases hk with rfl|hk
 ·have e1:slA A 0 e.w cap=A:=by
   unfold slA;split
   ·rfl
   ·rcases h with ⟨rfl,_⟩|⟨b,o,full,rfl,_⟩
    ·rfl
    ·rw[Option.map_some,gI rfl];simp[sB]
  rw[e1];exact h
 ·rcases h with ⟨_,_,rfl,_⟩|⟨b,o,full,rfl,rfl,h1,h2,h3⟩
  ·simp at hk
  ·refine .inr ⟨b,o+k,full,?_,by rw[show o+k+(cap-k)=o+cap by omega],by omega,by rw[aaR];omega,?_⟩
   ·unfold slA;rw[if_neg (by omega),Option.map_some,gI rfl];simp[sB,Nat.add_mul]
   ·rw[aaR]
    conv=>rhs;rw[<- h3]
    rw[List.drop_take,List.drop_drop]
theorem L2(mb cb n0 k cap:Nat)(M:MemS)(A:Option Addr)(Hl F:HL)(hs:SlIs i0 195 M.lg A cap Hl)(hc:M.cs.length <= 1000000)(hl:M.lg.length <= 100000000)(hb:0 <= M.base /\ M.base <= 1000000000)(Ta:n0 <= M.lg.length)(hk:M.lg.length-n0+k <= 100000000):Sp Tryz.prog 58 #[vP mb 0,vI (M.base+(n0:Int))] (ap [(mb,.lit [vS cb 0 M.cs.length M.cs.length,.slice A M.lg.length cap,vI M.base] 162 (0,0)),(cb,.rows 1 M.cs.length (aE M.cs) 3 (0,0))] [Hl]) F (λ u H'=>u=vI 0 /\ MemH mb (ig M n0) k H'):=by
 have ZT:M.lg.length <= cap:=hs.capLe;refine aau Tryz.func58 rfl mn (A:=[(mb,.lit [vS cb 0 M.cs.length M.cs.length,.slice A M.lg.length cap,vI M.base] 162 (0,0)),(cb,.rows 1 M.cs.length (aE M.cs) 3 (0,0))]) (Ts:=[Hl]) rfl λ w0=>?_;refine ae 10 [] λ _=>aai (yK mb cb M.cs.length A M.lg.length cap M.base (M.base+(n0:Int)) _ (aw 0) hb (by omega) (by omega) (by omega))<|ai 24 [.own 0,.nw] [bn ((M.base+(n0:Int))-M.base)] λ _=>aK 6 (congrArg (λ v_=>(vI v_:Value)) (show M.base+(n0:Int)-M.base=(n0:Int) by omega))<|ae 16 (aab 2) λ _=>RN.slA (A:=A) (n:=M.lg.length) (cap:=cap) (l:=n0) (sz:=2) rfl (by omega) ZT<|ae 17 (aab 2) λ _=>aam ((((M.lg.length-n0):Nat):Int)<(n0:Int)) 38 (λ h1=>?_) λ h1=>?_
 ·refine ae 7 [.own 0] λ _=>aap<|RN.appU (c':=(cap-n0)) (tx:=160) qN ([]:List (Int × Int)) (M.lg.drop n0) 0 rfl (aat _ _) (by rw[aaR];simp;omega) (RowL.src qN (by decide) (hs.drop (ar 1) rfl Ta)) ?_;rintro A2 c3 T4 ⟨TH,hz6⟩;refine ae 10 [.own 0] λ _=>aaq [] [0,1] [0] (v:=vI 0) (H':=(ap [(mb,.lit [vS cb 0 M.cs.length M.cs.length,.slice A2 (0+((M.lg.drop n0)).length) c3,vI (M.base+(n0:Int))] 162 (0,0)),(cb,.rows 1 M.cs.length (aE M.cs) 3 (0,0))] [T4])) ?_;refine⟨rfl,?_⟩;rw[List.nil_append] at TH;have h_:=MemH.mk (mb:=mb) (M:=ig M n0) (k:=k) cb A2 c3 T4 TH hc (by show (M.lg.drop n0).length+k <= _;rw[aaR];omega);have Wk:(ig M n0).lg.length=0+(M.lg.drop n0).length:=(Nat.zero_add _).symm;rw[Wk] at h_;exact h_
 ·refine ae 8 [] λ _=>aaq [] [0,1] [0] (v:=vI 0) (H':=(ap [(mb,.lit [vS cb 0 M.cs.length M.cs.length,.slice (slA A n0 2 cap) (M.lg.length-n0) (cap-n0),vI (M.base+(n0:Int))] 162 (0,0)),(cb,.rows 1 M.cs.length (aE M.cs) 3 (0,0))] [Hl])) ?_;refine⟨rfl,?_⟩;have h_:=MemH.mk (mb:=mb) (M:=ig M n0) (k:=k) cb (slA A n0 2 cap) (cap-n0) Hl (hs.dropI (by omega)) hc (by show (M.lg.drop n0).length+k <= _;rw[aaR];omega);have Wk:(ig M n0).lg.length=M.lg.length-n0:=aaR;rw[Wk] at h_;exact h_
theorem OG{mb n0 k k2:Nat}{M:MemS}{T:HL}(F:HL)(h:MemH mb M k T)(hb:0 <= M.base /\ M.base <= 1000000000)(Ta:n0 <= M.lg.length)(hk:k2 <= k){v:Int}(hv:v=M.base+(n0:Int)):Sp Tryz.prog 58 #[vP mb 0,vI v] (ap [] [T]) F (λ u H'=>∃x,H'=ap [] [x] /\ (u=vI 0 /\ MemH mb (ig M n0) k2 x)):=by
 subst hv;rw[aU];cases h with
 | mk cb A cap Hl hs hc hl=>exact(L2 mb cb n0 k2 cap M A Hl F hs hc (by omega) hb Ta (by omega)).tl
theorem Jd{b o wd l m:Nat}(h:m≠l):zO (some ⟨b,o*wd,none⟩) l wd m=some ⟨b,(o+l)*wd,none⟩:=by
 unfold zO slA;rw[if_neg h,Option.map_some,gI rfl];simp[sB,Nat.add_mul]
theorem E1(a:Nat)(l:List Int):(qm a l).drop 1=qm (a+1) (l.drop 1):=by cases l <;> rfl
theorem ut{b:Int}{L:Nat}{ms:List Int}(hr:∀k∈ms,b <= k /\ k <= b+(L:Int)){i:Nat}(hi:i<ms.length+1):b <= (ms++[b+(L:Int)]).getD i 0 /\ (ms++[b+(L:Int)]).getD i 0 <= b+(L:Int):=by
 have hm:=jC (l:=ms++[b+(L:Int)]) (i:=i) (by simpa using hi) 0;rcases List.mem_append.1 hm with h|h
 ·exact hr _ h
 ·rw[List.mem_singleton] at h;omega
inductive RingH(rb mb w a:Nat)(ms:List Int):HL -> Prop
 | mk {A:Option Addr} {cap n:Nat} {Hl:HL} (hs:SlX kY 188 (qm a ms) A cap Hl) (hn:n=ms.length) (h0:ms=[] -> A=none /\ cap=0 /\ Hl=[]):RingH rb mb w a ms (ap [(rb,.lit [vP mb 0,vI (w:Int),.slice A n cap] 169 (0,0))] [Hl])
def eD(w:Nat)(M:MemS)(a:Nat)(ms:List Int)(t:Nat):MemS × Nat × List Int :=
 let mk:=M.base+(M.lg.length:Int)
 let a0:=if ms=[] then t else a
 if w<ms.length+1 then (ig M (((ms++[mk]).getD 1 0)-M.base).toNat,a0+1,(ms++[mk]).drop 1) else (M,a0,ms++[mk])
theorem pv{w:Nat}(M:MemS)(a t:Nat)(h:1 <= w):eD w M a [] t=(M,t,[M.base+(M.lg.length:Int)]):=by
 unfold eD;dsimp only;rw[if_neg (by simp;omega),if_pos rfl];rfl
theorem Bf{w a t:Nat}{ms:List Int}(M:MemS)(h:w<ms.length+1)(hn:ms≠[]):eD w M a ms t=(ig M (((ms++[M.base+(M.lg.length:Int)]).getD 1 0)-M.base).toNat,a+1,(ms++[M.base+(M.lg.length:Int)]).drop 1):=by
 unfold eD;dsimp only;rw[if_pos h,if_neg hn]
theorem Je{w a t:Nat}{ms:List Int}(M:MemS)(h:¬ w<ms.length+1)(hn:ms≠[]):eD w M a ms t=(M,a,ms++[M.base+(M.lg.length:Int)]):=by
 unfold eD;dsimp only;rw[if_neg h,if_neg hn]
theorem Jf(rb mb w cap t k k2:Nat)(M:MemS)(T F:HL)(hM:MemH mb M k T)(hb:0 <= M.base /\ M.base <= 1000000000)(hw:1 <= w /\ w <= 13)(U6:k2 <= k)(Zo:t <= 1000000):Sp Tryz.prog 77 #[vP rb 0,vI (t:Int)] (ap [(rb,.lit [vP mb 0,vI (w:Int),.slice none 0 0] 169 (0,0))] [T]) F (λ u H'=>∃x:HL × HL,H'=ap [] [x.1,x.2] /\ (u=vI 0 /\ RingH rb mb w (eD w M 0 [] t).2.1 (eD w M 0 [] t).2.2 x.1 /\ MemH mb (eD w M 0 [] t).1 k2 x.2)):=by
 refine aau Tryz.func77 rfl mn (A:=[(rb,.lit [vP mb 0,vI (w:Int),.slice none 0 0] 169 (0,0))]) (Ts:=[T]) rfl λ w0=>?_;refine ae 12 [] λ _=>aam ((t:Int)<0) 7 (λ h1=>?_) λ h1=>?_
 ·(exfalso;omega)
 ·refine ae 25 [.own 0] λ _=>aal [13,16] []<|ag [] [0,1,5,6,2,7,3,8,4,9] (aab 2)<|aac [] 10 (λ X_=>(Bc hM (aO 0) hb))<|ag [] [11] []<|aae 12 (aag [] [] λ n3=>?_);refine RD.nt<|aae 13 (RDO.appX [] Mu ([]:List (Int × Int)) [((t:Int),(M.base+(M.lg.length:Int)))] 0 0 rfl (SlX.nil _ _) (by simp) ?_);rintro A4 c5 T6 ⟨Yz,hz8⟩;refine ag [] [14,15] []<|aae 16 (aag [] [.own 1] λ _=>?_);refine aad<|ae 3 [] λ _=>?_;have Sr:SlX kY 188 (qm t (([]:List Int)++[(M.base+(M.lg.length:Int))])) A4 c5 T6:=by
   exact Yz
  clear Yz;refine ae 19 (ow 1 2) λ _=>aam ((((0+1):Nat):Int)>(w:Int)) 47 (λ h9=>?_) λ h9=>?_
  ·(exfalso;omega)
  ·refine ae 8 [] λ _=>aaq [] [1] [0,1] (v:=vI 0) (H':=(ap [(rb,.lit [vP mb 0,vI (w:Int),.slice A4 (0+1) c5] 169 (0,0))] [T6,T])) ?_;rw[pv M 0 t hw.1];exact⟨(_,_),by simp[ap],rfl,.mk Sr rfl (λ e_=>by cases e_),hM.weak U6⟩
theorem E2(rb mb w cap t k k2:Nat)(M:MemS)(n a:Nat)(ms:List Int)(A:Option Addr)(Hl:HL)(T F:HL)(hs:SlX kY 188 (qm a ms) A cap Hl)(hn:n=ms.length)(UT:1 <= n)(Xw:n <= 100000000)(ht:t=a+n)(hr:∀k∈ms,M.base <= k /\ k <= (M.base+(M.lg.length:Int)))(hM:MemH mb M k T)(hb:0 <= M.base /\ M.base <= 1000000000)(hw:1 <= w /\ w <= 13)(U6:k2 <= k)(Zo:t <= 1000000):Sp Tryz.prog 77 #[vP rb 0,vI (t:Int)] (ap [(rb,.lit [vP mb 0,vI (w:Int),.slice A n cap] 169 (0,0))] [Hl,T]) F (λ u H'=>∃x:HL × HL,H'=ap [] [x.1,x.2] /\ (u=vI 0 /\ RingH rb mb w (eD w M a ms t).2.1 (eD w M a ms t).2.2 x.1 /\ MemH mb (eD w M a ms t).1 k2 x.2)):=by
 have hw_:BU a ms+1=(t:Int):=by unfold BU;rw[if_neg (by rintro rfl;simp at hn;omega)];omega
 refine aau Tryz.func77 rfl mn (A:=[(rb,.lit [vP mb 0,vI (w:Int),.slice A n cap] 169 (0,0))]) (Ts:=[Hl,T]) rfl λ w0=>?_;refine ae 12 [] λ _=>aam ((t:Int)<0) 7 (λ h1=>?_) λ h1=>?_
 ·(exfalso;omega)
 ·refine ae 13 [.own 0] λ _=>aam ((n:Int)>0) 14 (λ h2=>?_) λ h2=>?_
  ·refine ae 2 [] λ _=>aai (BV (rb:=rb) (mb:=mb) (w:=w) hs (ar 0) hn Xw (aw 0))<|ai 5 [.nw] [bn ((BU a ms)+1)] λ _=>aan ((t:Int)=(BU a ms)+1) 20 (λ h3=>?_) λ h3=>?_
   ·refine ae 4 [] λ _=>aal [13,16] []<|ag [] [0,1,5,6,2,7,3,8,4,9] (aab 2)<|aac [] 10 (λ X_=>(Bc hM (aO 1) hb))<|ag [] [11] []<|aae 12 (aag [] [] λ n5=>?_);refine aae 13 (RDO.appX [] Mu (qm a ms) [((t:Int),(M.base+(M.lg.length:Int)))] 0 0 (hn.trans (ko a ms).symm) hs (by rw[ko];simp;omega) ?_);rintro A6 c7 T8 ⟨hs9,aj6⟩;refine ag [] [14,15] []<|aae 16 (aag [] [.own 1] λ _=>?_);refine aad<|ae 3 [] λ _=>?_;have Sr:SlX kY 188 (qm a (ms++[(M.base+(M.lg.length:Int))])) A6 c7 T8:=by
     rw[wJ,<- hn,<- ht];exact hs9
    clear hs9;refine ae 19 (ow 1 2) λ _=>aam ((((n+1):Nat):Int)>(w:Int)) 47 (λ Tw=>?_) λ Tw=>?_
    ·refine ae 2 [] λ _=>?_;have XP:=Sr;obtain⟨b1,o1,M1,f1,rfl,rfl,YK,hM1,hc1,ZS,UW⟩:=uV Sr (by simp);rw[aaP,List.length_singleton,<- hn] at hc1;refine tc 0 (x:=(b1,.rows 2 M1 (aL kY f1) 188 (0,0))) ?_;have VG:=ut hr (i:=1) (by omega);have af7:((ms++[(M.base+(M.lg.length:Int))]).getD 1 0-M.base).toNat <= M.lg.length:=by omega
     have af6:(ms++[(M.base+(M.lg.length:Int))]).getD 1 0=M.base+((((ms++[(M.base+(M.lg.length:Int))]).getD 1 0-M.base).toNat:Nat):Int):=by omega
     refine ae 8 [.own 2] λ _=>zP (A:=some ⟨b1,o1*2,none⟩) (n:=(n+1)) (cap:=c7) (l:=1) (h:=n+1) (m:=n+1) (sz:=2) (li:=some 1) (hi:=some (((n+1):Nat):Int)) (mi:=some (((n+1):Nat):Int)) rfl rfl rfl (by omega) (by omega) hc1<|aK 55 (congrArg (λ v_=>(.slice v_ (n+1-1) (n+1-1):Value)) (Jd (b:=b1) (o:=o1) (wd:=2) (l:=1) (m:=n+1) (by omega)))<|ae 5 [.own 2] λ _=>aal [11] []<|aA [] [0,4,1,5,2,6,3,7,8,9,10] [.own 2,.own 2,.ix 0,.row 0 ((o1+1)+0) 1] [(((o1+1)*2+0*2)+1)=((o1+1)+0)*2+1 /\ ((o1+1)+0)<M1,0=((0:Nat):Int) /\ 0<(n+1-1)]<|fW 68 (congrArg (λ v_=>(vI v_:Value)) (congrArg Prod.snd (UW 1 (by simp;omega))))<|aae 11 (aaf [] [] [0] (OG (n0:=((ms++[(M.base+(M.lg.length:Int))]).getD 1 0-M.base).toNat) (k2:=k2) _ hM hb af7 U6 af6) ?_);rintro _ Yo ⟨rfl,Xg⟩;refine aad<|ae 6 [] λ _=>aaq [] [2,0] [0] (v:=vI 0) (H':=(ap [(rb,.lit [vP mb 0,vI (w:Int),vS b1 ((o1+1)*2) (n+1-1) (n+1-1)] 169 (0,0)),(b1,.rows 2 M1 (aL kY f1) 188 (0,0))] [Yo])) ?_;rw[Bf M (by omega) (by rintro rfl;simp at hn;omega)];have UK:=XP.cut (k:=1) (h:=n+1) (m:=n+1) (by omega) (by rw[ko];simp;omega) (by omega) hc1;rw[List.take_of_length_le (by rw[ko];simp;omega),E1] at UK;have Wd:zO (some ⟨b1,o1*2,none⟩) 1 2 (n+1)=some ⟨b1,(o1+1)*2,none⟩:=Jd (by omega);rw[show kY.w=2 from rfl,Wd] at UK;exact⟨(_,_),by simp[ap],rfl,.mk (n:=n+1-1) UK (by simp;omega) (λ e_=>by have h_:=congrArg List.length e_;rw[aaR,aaP,List.length_singleton,List.length_nil] at h_;omega),Xg⟩
    ·refine ae 8 [] λ _=>aaq [] [1] [0,1] (v:=vI 0) (H':=(ap [(rb,.lit [vP mb 0,vI (w:Int),.slice A6 (n+1) c7] 169 (0,0))] [T8,T])) ?_;rw[Je M (by omega) (by rintro rfl;simp at hn;omega)];exact⟨(_,_),by simp[ap],rfl,.mk (n:=n+1) Sr (by simp;omega) (λ e_=>by simp at e_),hM.weak U6⟩
   ·(exfalso;omega)
  ·(exfalso;omega)
theorem SlX.take{α:Type}{e:Enc α}{T:TypeId}{l:List α}{A:Option Addr}{cap:Nat}{Hl:HL}(h:SlX e T l A cap Hl)(k:Nat):SlX e T (l.take k) A cap Hl:=by
 rcases h with ⟨rfl,rfl,rfl,rfl⟩|⟨b,o,M,full,h1,h2,h3,h3',h4,h5⟩
 ·rw[List.take_nil];exact SlX.nil _ _
 ·refine .inr ⟨b,o,M,full,h1,h2,h3,h3',by rw[aaQ];omega,?_⟩;rw[aaQ]
  conv=>rhs;rw[<- h5]
  rw[List.take_take]
theorem OH{mb n0 k k2:Nat}{M:MemS}{T:HL}(F:HL)(h:MemH mb M k T)(hk:k2 <= k)(hb:0 <= M.base /\ M.base <= 1000000000)(Ta:n0 <= M.lg.length)(Su:∀e∈M.lg.drop n0,0 <= e.1 /\ e.1<(M.cs.length:Int)){v:Int}(hv:v=M.base+(n0:Int)):Sp Tryz.prog 82 #[vP mb 0,vI v] (ap [] [T]) F (λ u H'=>∃x,H'=ap [] [x] /\ (u=vI 0 /\ MemH mb (lH M n0) k2 x)):=by
 subst hv;exact Jc F h hk hb Ta Su
theorem L3(rb mb w cap x k k2 n a b1 o1 M1:Nat)(f1:List (Int × Int))(ms:List Int)(M:MemS)(T F:HL)(hs:SlX kY 188 (qm a ms) (some ⟨b1,o1*2,none⟩) cap [(b1,.rows 2 M1 (aL kY f1) 188 (0,0))])(hn:n=ms.length)(UT:1 <= n)(Xw:n <= 100000000)(hx:a <= x /\ x<a+n)(Yv:x <= 1000000)(hcap:n <= cap)(hM1:o1+cap <= M1)(hg:∀k,k<n -> f1.getD (o1+k) kY.dflt=(((a+k:Nat):Int),ms.getD k 0))(hr:M.base <= (ms.getD (x-a) 0) /\ (ms.getD (x-a) 0) <= (M.base+(M.lg.length:Int)))(Su:∀e∈M.lg.drop ((ms.getD (x-a) 0)-M.base).toNat,0 <= e.1 /\ e.1<(M.cs.length:Int))(hM:MemH mb M k T)(hb:0 <= M.base /\ M.base <= 1000000000)(U6:k2 <= k):Sp Tryz.prog 74 #[vP rb 0,vI (x:Int)] (ap [(rb,.lit [vP mb 0,vI (w:Int),vS b1 (o1*2) n cap] 169 (0,0)),(b1,.rows 2 M1 (aL kY f1) 188 (0,0))] [T]) F (λ u H'=>∃y:HL × HL,H'=ap [] [y.1,y.2] /\ (u=vI 0 /\ RingH rb mb w a (ms.take (x-a+1)) y.1 /\ MemH mb (lH M ((ms.getD (x-a) 0)-M.base).toNat) k2 y.2)):=by
 have XA:(f1.getD (o1+(x-a)) kY.dflt).1=(x:Int):=by rw[hg _ (by omega)];show ((a+(x-a):Nat):Int)=x;omega
 have U5:∀k,k<x-a -> ¬ (f1.getD (o1+k) kY.dflt).1=(x:Int):=by intro k hk;rw[hg _ (by omega)];show ¬ ((a+k:Nat):Int)=x;omega
 have akM:(f1.getD (o1+(n-1)) kY.dflt).1=((a+(n-1):Nat):Int):=by rw[hg _ (by omega)]
 have akK:(f1.getD o1 kY.dflt).1=((a+0:Nat):Int):=by have h_:=hg 0 (by omega);rw[Nat.add_zero] at h_;rw[h_]
 refine aau Tryz.func74 rfl mn (A:=[(rb,.lit [vP mb 0,vI (w:Int),vS b1 (o1*2) n cap] 169 (0,0)),(b1,.rows 2 M1 (aL kY f1) 188 (0,0))]) (Ts:=[T]) rfl λ w0=>?_;refine ae 8 [] λ n1=>aal [] []<|ag [] [0,1,2,3,4,5,6] [.own 1]<|RD.em ((n:Int)=0) 13 (λ h2=>?_) λ h2=>?_
 ·(exfalso;omega)
 ·refine ag [] [7,8] [.own 0]<|aac [] 9 (λ X_=>(F8 rb mb b1 o1 M1 n cap w f1 _ (fd 1) (fd 2) UT (by omega) Xw))<|ag [] [10,11] []<|aad<|ae 1 [] λ _=>aam ((x:Int)<(f1.getD o1 kY.dflt).1) 18 (λ h3=>?_) λ h3=>?_
  ·(exfalso;omega)
  ·refine ae 5 [] λ _=>aal [] []<|ag [] [0,1] [.own 0]<|aac [] 2 (λ X_=>(wL rb mb b1 o1 M1 n cap w f1 _ (fd 1) (fd 2) UT (by omega) Xw))<|ag [] [3] []<|aad<|ae 1 [] λ _=>aam ((x:Int)>(f1.getD (o1+(n-1)) kY.dflt).1) 22 (λ h4=>?_) λ h4=>?_
   ·(exfalso;omega)
   ·refine ae 10 [.own 1] λ _=>aai (KB b1 o1 M1 n cap (n1+0) (x-a) (x:Int) f1 _ (aw 0) (aw 2) (by omega) Xw (by omega) XA U5)<|ae 5 [] λ _=>aal [12] []<|aA [] [0,4,8,1,5,2,6,3,7,9,10,11] [.own 1,.own 1,.ix (x-a),.row 2 (o1+(x-a)) 1] [((o1*2+(x-a)*2)+1)=(o1+(x-a))*2+1 /\ (o1+(x-a))<M1,((x-a:Nat):Int)=(((x-a):Nat):Int) /\ (x-a)<n]<|fW 40 (congrArg (λ v_=>(vI v_:Value)) (congrArg Prod.snd (hg (x-a) (by omega))))<|aae 12 (aaf [] [] [0] (OH (n0:=((ms.getD (x-a) 0)-M.base).toNat) (k2:=k2) _ hM U6 hb (by omega) Su (show (ms.getD (x-a) 0)=M.base+((((ms.getD (x-a) 0)-M.base).toNat:Nat):Int) by omega)) ?_);rintro _ T5 ⟨rfl,SM⟩;refine ag [] [13] []<|aad<|ai 30 [.own 1,.nw,.sl 0 ((x-a)+1) false,.own 1] [0=0 /\ ((x-a:Nat):Int)+1=((((x-a)+1):Nat):Int) /\ 0 <= ((x-a)+1) /\ ((x-a)+1) <= cap /\ cap≠0,bn (((x-a:Nat):Int)+1)] λ _=>aaq [] [1,2] [0] (v:=vI 0) (H':=(ap [(rb,.lit [vP mb 0,vI (w:Int),vS b1 (o1*2+0*2) (((x-a)+1)-0) (cap-0)] 169 (0,0)),(b1,.rows 2 M1 (aL kY f1) 188 (0,0))] [T5])) ?_;have UK:=hs.take (x-a+1);rw[wK] at UK;exact⟨(_,_),by simp[ap],rfl,.mk (n:=x-a+1) UK (by rw[aaQ];omega) (λ e_=>by have h_:=congrArg List.length e_;rw[aaQ,List.length_nil] at h_;omega),SM⟩
theorem Jg{rb mb w a t k k2:Nat}{ms:List Int}{M:MemS}{G T:HL}(F:HL)(hG:RingH rb mb w a ms G)(ht:ms≠[] -> t=a+ms.length)(hr:∀k∈ms,M.base <= k /\ k <= M.base+(M.lg.length:Int))(hM:MemH mb M k T)(hb:0 <= M.base /\ M.base <= 1000000000)(hw:1 <= w /\ w <= 13)(U6:k2 <= k)(Zo:t <= 1000000)(hl:ms.length <= 100000000):Sp Tryz.prog 77 #[vP rb 0,vI (t:Int)] (ap [] [G,T]) F (λ u H'=>∃x:HL × HL,H'=ap [] [x.1,x.2] /\ (u=vI 0 /\ RingH rb mb w (eD w M a ms t).2.1 (eD w M a ms t).2.2 x.1 /\ MemH mb (eD w M a ms t).1 k2 x.2)):=by
 cases hG with
 | @mk A cap n Hl hs hn h0 =>
  by_cases e:ms=[]
  ·obtain⟨rfl,rfl,rfl⟩:=h0 e;subst e;obtain rfl:n=0:=hn;have h:=Jf rb mb w 0 t k k2 M T F hM hb hw U6 Zo;rw[pv M 0 t hw.1] at h;rw[pv M a t hw.1];simpa [ap] using h
  ·have hp:1 <= n:=by
    cases ms with
    | nil=>exact absurd rfl e
    | cons _ _=>rw[hn];simp
   have h:=E2 rb mb w cap t k k2 M n a ms A Hl T F hs hn hp (by omega) (by rw[hn];exact ht e) hr hM hb hw U6 Zo;simpa [ap] using h
theorem L4{rb mb w a x k k2:Nat}{ms:List Int}{M:MemS}{G T:HL}(F:HL)(hG:RingH rb mb w a ms G)(hx:a <= x /\ x<a+ms.length)(Yv:x <= 1000000)(hl:ms.length <= 100000000)(hr:M.base <= ms.getD (x-a) 0 /\ ms.getD (x-a) 0 <= M.base+(M.lg.length:Int))(Su:∀e∈M.lg.drop (ms.getD (x-a) 0-M.base).toNat,0 <= e.1 /\ e.1<(M.cs.length:Int))(hM:MemH mb M k T)(hb:0 <= M.base /\ M.base <= 1000000000)(U6:k2 <= k):Sp Tryz.prog 74 #[vP rb 0,vI (x:Int)] (ap [] [G,T]) F (λ u H'=>∃y:HL × HL,H'=ap [] [y.1,y.2] /\ (u=vI 0 /\ RingH rb mb w a (ms.take (x-a+1)) y.1 /\ MemH mb (lH M (ms.getD (x-a) 0-M.base).toNat) k2 y.2)):=by
 cases hG with
 | @mk A cap n Hl hs hn h0 =>
  have e:ms≠[]:=by rintro rfl;simp at hx;omega
  have hs2:=hs;obtain⟨b,o,M1,full,rfl,rfl,h3,h4,h5,h6,h7⟩:=uV hs e;have h:=L3 rb mb w cap x k k2 n a b o M1 full ms M T F hs2 hn (by omega) (by omega) (by omega) Yv (by omega) h4 (λ k hk=>h7 k (by omega)) hr Su hM hb U6;simpa [ap] using h
theorem yQ{α:Type}{d:α}{l m:List α}(h1:l.length=m.length)(h2:∀k,k<l.length -> l.getD k d=m.getD k d):l=m:=by
 apply List.ext_getElem h1;intro i h3 h4;have:=h2 i h3;rwa [aaI,aaI,aaT h3,aaT h4] at this
theorem CS{x y:Inp}(h1:x.dx=y.dx)(h2:x.dy=y.dy)(h3:x.act=y.act):x=y:=by cases x;cases y;simp_all
theorem L5{ρ:Type}{w now:Nat}{S:PS ρ}(h:¬ (S.ms≠[] /\ S.a+S.ms.length=now+1)):((ee w S now).M,(ee w S now).a,(ee w S now).ms)=eD w S.M S.a S.ms now:=by
 unfold ee eD;rw[if_neg h];dsimp only;split <;> rfl
theorem vV{a now:Nat}{ms:List Int}:BU a ms=(now:Int)↔(ms≠[] /\ a+ms.length=now+1):=by
 unfold BU;split
 ·next e=>subst e;simp
 ·next e =>
  constructor
  ·intro h;exact⟨e,by omega⟩
  ·rintro⟨_,h⟩;omega
theorem PInv.marks{ρ:Type}{g:Nat -> ρ -> Gm}{c0:List Int}{w m:Nat}{S:PS ρ}{V:List ρ}(h:PInv g c0 w S V m):∀k∈S.ms,S.M.base <= k /\ k <= S.M.base+(S.M.lg.length:Int):=by
 intro k hk;obtain⟨i,hi,rfl⟩:=List.mem_iff_getElem.1 hk;have h1:=h.rst i _ (aaT hi);exact⟨h1.lo,h1.hi⟩
def kf(x:Inp):Inp:=⟨x.dx,x.dy,0⟩
instance:DecidableEq Inp:=λ x y=>decidable_of_iff (x.dx=y.dx /\ x.dy=y.dy /\ x.act=y.act) ⟨λ h=>CS h.1 h.2.1 h.2.2,λ h=>by rw[h];exact⟨rfl,rfl,rfl⟩⟩
theorem Jh(A B:Option Addr)(n c m d:Nat)(xs ys:List Inp)(F:HL)(hl:RowL cL 40 F A n xs)(SC:RowL cL 40 F B m ys)(hb:n <= 1000000):Sp Tryz.prog 73 #[.slice A n c,.slice B m d] [] F (λ u H'=>u=.bool (decide (xs=ys)) /\ H'=[]):=by
 have WH:=hl.len;have afp:=SC.len;refine aau Tryz.func73 rfl mn (A:=[]) (Ts:=[]) rfl λ w0=>?_;refine ae 15 [] λ _=>aan ((n:Int)=(m:Int)) 10 (λ h1=>?_) λ h1=>?_
 ·refine ae 12 [] λ _=>aao (σ:=Nat) (λ k_=>⟨[(0,.slice A n c),(1,.slice B m d),(12,vI (n:Int)),(13,vI (k_:Int))],[],[],k_ <= n /\ ∀j,j<k_ -> xs.getD j dI=ys.getD j dI,n-k_⟩) 0 [] [] (⟨aaL _,λ j hj=>absurd hj (Nat.not_lt_zero _)⟩) ?_;rintro k_ ⟨Xy,Vk⟩ Sm;refine ae 6 [] λ _=>aam ((k_:Int)<(n:Int)) 14 (λ h4=>?_) λ h4=>?_
  ·refine ae 12 [] λ _=>aal [] []<|ag [] [0,1,4,5] [] ?_;obtain⟨ajH,S0,aaN,amb,aiM,adl,YB,ahS,acq⟩:=hl.at (k:=k_) (by omega);refine fW 16 (congrArg (λ v_=>(.slice v_ n c:Value)) adl)<|RD.ro (λ _=>(mc YB mn)) ?_;obtain⟨ajG,SZ,aaM,ama,aiL,adk,abY,ahR,acp⟩:=SC.at (k:=k_) (by omega);refine fW 20 (congrArg (λ v_=>(.slice v_ m d:Value)) adk)<|RD.ro (λ _=>(mc YB (mc abY mn)))<|aA [] [2,6,3,7] [.ix k_,.ix k_,.rorow 0 (S0+k_) 0,.rorow 0 (S0+k_) 1,.rorow 0 (S0+k_) 2,.rorow 1 (SZ+k_) 0,.rorow 1 (SZ+k_) 1,.rorow 1 (SZ+k_) 2] [((SZ*3+k_*3)+2)=(SZ+k_)*3+2 /\ (SZ+k_)<aaM,((SZ*3+k_*3)+1)=(SZ+k_)*3+1 /\ (SZ+k_)<aaM,(SZ*3+k_*3)=(SZ+k_)*3+0 /\ (SZ+k_)<aaM,((S0*3+k_*3)+2)=(S0+k_)*3+2 /\ (S0+k_)<aaN,((S0*3+k_*3)+1)=(S0+k_)*3+1 /\ (S0+k_)<aaN,(S0*3+k_*3)=(S0+k_)*3+0 /\ (S0+k_)<aaN,(k_:Int)=((k_:Nat):Int) /\ k_<m,(k_:Int)=((k_:Nat):Int) /\ k_<n]<|fW 19 (congrArg (λ v_=>(.agg #[vI v_.dx,vI v_.dy,vI v_.act]:Value)) acq)<|fW 23 (congrArg (λ v_=>(.agg #[vI v_.dx,vI v_.dy,vI v_.act]:Value)) acp)<|ag [] [8] [.sq]<|aad<|ae 1 [] λ _=>qI ((decide ((xs.getD k_ dI).dx=(ys.getD k_ dI).dx) && (decide ((xs.getD k_ dI).dy=(ys.getD k_ dI).dy) && (decide ((xs.getD k_ dI).act=(ys.getD k_ dI).act) && true)))) 24 (λ h5=>?_) λ h5=>?_
   ·refine ai 8 [.nw] [bn ((k_:Int)+1)] λ _=>?_;refine Sm (k_+1) [] [] ?_
    try dsimp only
    have VQ:=h5;simp only[aa0,decide_eq_true_eq] at VQ;refine⟨⟨by omega,λ j hj=>?_⟩,by omega⟩
    by_cases ej:j=k_
    ·rw[ej];exact CS VQ.1 VQ.2.1 VQ.2.2.1
    ·exact Vk j (by omega)
   ·refine ae 6 [] λ _=>aaq [] [] [] (v:=.bool false) (H':=[]) ?_;exact⟨by rw[aa9 (λ e_=>h5 (by rw[e_];simp))],rfl⟩
  ·refine ae 11 [] λ _=>aaq [] [] [] (v:=.bool true) (H':=[]) ?_;obtain rfl:k_=n:=by omega
   exact⟨by rw[aba (yQ (by omega) (λ k hk=>Vk k (by omega)))],rfl⟩
 ·refine ae 6 [] λ _=>aaq [] [] [] (v:=.bool false) (H':=[]) ?_;exact⟨by rw[aa9 (λ e_=>h1 (by rw[<- WH,e_,afp]))],rfl⟩
theorem Ji(x:Inp)(F:HL):Sp Tryz.prog 75 #[.agg #[vI x.dx,vI x.dy,vI x.act]] [] F (λ u H'=>u=.agg #[vI (kf x).dx,vI (kf x).dy,vI (kf x).act] /\ H'=[]):=by
 refine aau Tryz.func75 rfl mn (A:=[]) (Ts:=[]) rfl λ w0=>?_;refine ae 18 [.own 1,.own 1,.own 1,.own 1,.own 0,.own 0,.own 0] λ n1=>?_;exact aaq (aab 3) [] [] ⟨rfl,rfl⟩
theorem Jj{n:Int}(h:oV n):0 <= qW n /\ qW n<1000:=dg h 1000 (by decide)
theorem vW{n m:Int}(h0:0 <= n)(h1:n<m):ay n m=n:=by
 unfold ay;rw[if_neg (by omega)];exact Int.tmod_eq_of_lt h0 h1
theorem Bg{n:Int}(h:oV n):cR (qW n)=cR n:=by
 have hb:=Jj h;have e:qW (qW n)=qW n:=vW hb.1 hb.2;unfold cR oT;rw[e]
theorem E3:∀k:Fin 1000,kr ⟨(cR ((k.1:Nat):Int)).1,(cR ((k.1:Nat):Int)).2,none,0⟩:=by decide +kernel
theorem Jk{n:Int}(h:oV n)(A:Option Addr)(c:Nat):kr ⟨(cR n).1,(cR n).2,A,c⟩:=by
 have hb:=Jj h;have:=E3 ⟨(qW n).toNat,by omega⟩;simp only at this;rw[Int.toNat_of_nonneg hb.1,Bg h] at this;exact this
theorem OI(i:Nat):0 <= ([1024,1024,512,2048,0]:List Int).getD i 0 /\ ([1024,1024,512,2048,0]:List Int).getD i 0 <= 4096:=by
 rcases i with _|_|_|_|_|i
 all_goals first|decide|simp
section
variable {xs:List Int} {F:HL} {A:Option Addr} {n:Nat} {S:Setup} {T:HL}
theorem L6(hl:ArgL F A n xs)(k:Nat)(B:Option Addr)(c:Nat):fy (tH xs k B c) ⟨-12000,-9000,12000,9000⟩:=by
 have h1:=iu hl (4+2*k);have h2:=iu hl (5+2*k);have h3:=OI ((bM xs k / 5000) % 5).toNat
 simp only[fy,tH,tJ,xE,and_true];rw[show kv xs (4+2*k)=bN xs k from rfl] at h1;rw[show kv xs (5+2*k)=bM xs k from rfl] at h2;refine⟨h3,⟨⟨?_,?_⟩,?_,?_⟩,⟨?_,?_⟩,⟨?_,?_⟩,⟨?_,?_⟩,?_,?_⟩ <;> omega
theorem Jl(i:Nat):(jY i:Int) <= 16 /\ ∀k,k<jY i -> rk 3 ((k9 i).getD k mX.dflt):=by
 rcases i with _|_|i
 ·exact⟨by decide,λ k hk=>absurd hk (Nat.not_lt_zero _)⟩
 ·exact⟨by decide,by decide⟩
 ·exact⟨by show ((2:Nat):Int) <= 16;decide,by show ∀k,k<2 -> rk 3 (([⟨0,2⟩,⟨1,2⟩]:List Dr).getD k mX.dflt);decide⟩
theorem E4(hl:ArgL F A n xs)(h:SetG xs S T):jL S sJ (k9 (kv xs 3 % 3).toNat)=0:=by
 have h1:=qu hl;have h2:=vt hl;have hn:=h.nb;have k0:=iu hl 0;have k1:=iu hl 1;have k2:=iu hl 2;obtain⟨e1,e2,e3,e4,e5,e6,e7,e8⟩:=h.nums;obtain⟨⟨m1,m2⟩,-⟩:=h.maps;have hd:=Jl (kv xs 3 % 3).toNat
 unfold jL;rw[if_pos,if_pos,if_pos]
 ·intro k hk;obtain⟨B,c,hb⟩:=h.bod k hk;rw[hb,e1];exact L6 hl k B c
 ·refine⟨?_,?_,⟨?_,?_⟩,?_,?_⟩
  ·have hpl:=h.pl;simp only[jz,tJ,xE,and_true,e2,e3,e4,e5,e6,e7,e8,hpl];refine⟨⟨?_,?_⟩,⟨?_,?_⟩,⟨?_,?_⟩,⟨⟨?_,?_⟩,?_,?_⟩,⟨?_,?_⟩,⟨⟨?_,?_⟩,?_,?_⟩,⟨?_,?_⟩,?_,?_⟩ <;> omega
  ·rw[e1];decide
  ·rw[m1];decide
  ·rw[m2];exact hd.1
  ·rw[m1];decide
  ·rw[m1,m2];exact hd.2
 ·intro k hk;obtain⟨B,c,hb⟩:=h.bod k hk;rw[hb];have:=iu hl (4+2*k);exact Jk ⟨by show _ <= kv xs (4+2*k);omega,by show kv xs (4+2*k) <= _;omega⟩ B c
end
theorem Sp.den{P:Program}{f:FuncId}{args:Array Value}{H F F':HL}{R:Value -> HL -> Prop}(h:Sp P f args H F R)(e:eE F=eE F'):Sp P f args H F' R:=by
 have e2:∀X:HL,eE (X++F)=eE (X++F'):=λ X=>by simp only[eE,List.map_append] at e ⊢;rw[e]
 intro w hR;refine(h w (hR.den (e2 H).symm)).mono ?_;rintro e' w' ⟨v,H',h1,h2,h3,h4⟩;exact⟨v,H',h1,h2,h3.den (e2 H'),h4⟩
def ArgD(F:HL)(A:Option Addr)(n:Nat)(xs:List Int):Prop:=∃F',eE F'=eE F /\ ArgL F' A n xs
theorem ArgL.d{F F':HL}{A:Option Addr}{n:Nat}{xs:List Int}(h:ArgL F A n xs)(e:eE F=eE F'):ArgD F' A n xs:=⟨F,e,h⟩
theorem ArgD.up{F X:HL}{A:Option Addr}{n:Nat}{xs:List Int}(h:ArgD F A n xs):ArgD (X++F) A n xs:=by
 obtain⟨F',e,h⟩:=h;exact⟨X++F',by simp only[eE,List.map_append] at e ⊢;rw[e],h.up⟩
theorem ArgD.ex{F:HL}{A:Option Addr}{n:Nat}{xs:List Int}(h:ArgD F A n xs):∃F',ArgL F' A n xs:=by
 obtain⟨F',e,h⟩:=h;exact⟨F',h⟩
theorem ArgD.use{F:HL}{A:Option Addr}{n:Nat}{xs:List Int}(h:ArgD F A n xs){P:Program}{f:FuncId}{args:Array Value}{H:HL}{R:Value -> HL -> Prop}(k:∀F',ArgL F' A n xs -> Sp P f args H F' R):Sp P f args H F R:=by
 obtain⟨F',e,h⟩:=h;exact(k F' h).den e
noncomputable section
end
structure GF(xs:List Int)(S:Setup):Prop where
 pl:1 <= S.players /\ S.players <= 3
 nb:1 <= S.nb /\ S.nb <= 5
 rn:S.rn=3
 dn:S.dn <= 2
 sz:48 <= sizeOf S /\ sizeOf S <= 100
 val:jL S sJ (k9 (kv xs 3 % 3).toNat)=0
theorem OJ{F:HL}{A:Option Addr}{n:Nat}{xs:List Int}(hl:ArgD F A n xs){S:Setup}{T:HL}(h:SetG xs S T):GF xs S:=by
 obtain⟨F',hl⟩:=hl.ex;have h1:=qu hl;have h2:=vt hl;have hn:=h.nb;have hp:=h.pl;obtain⟨⟨m1,m2⟩,-⟩:=h.maps;have hd:jY (kv xs 3 % 3).toNat <= 2:=by
  generalize (kv xs 3 % 3).toNat=i;rcases i with _|_|i
  ·exact aaL _
  ·exact aaJ rfl
  ·exact aaK 2
 exact⟨by omega,by omega,m1,by omega,by unfold sizeOf;omega,E4 hl h⟩
structure SetV(S:Setup):Prop where
 pl:1 <= S.players /\ S.players <= 3
 nb:1 <= S.nb /\ S.nb <= 5
 ro:1 <= S.rounds /\ S.rounds <= 3
 fu:0 <= S.fuel /\ S.fuel <= 60
theorem aP(M:MemS)(i v:Int):(M.set i v).cs.length=M.cs.length:=by
 unfold MemS.set;split <;> simp
theorem bC{M:MemS}{i v j:Int}(h:j≠i):(M.set i v).get j=M.get j:=by
 unfold MemS.set;split
 ·next hi =>
  unfold MemS.get;simp only[List.length_set];split
  ·next hj =>
   rw[aaI,aaI,List.getElem?_set_ne (by omega)]
  ·rfl
 ·rfl
theorem jE{M:MemS}{i v:Int}(h:0 <= i /\ i<M.cs.length):(M.set i v).get i=v:=by
 unfold MemS.set;rw[if_pos h];unfold MemS.get;simp only[List.length_set];rw[if_pos h,aaI,List.getElem?_set_self (by omega)];rfl
theorem bU{M:MemS}{i v:Int}(h:48 <= M.cs.length)(h0:0 <= i)(h1:i<48)(j:Int):(M.set i v).get j=if j=i then v else M.get j:=by
 by_cases e:j=i
 ·rw[if_pos e,e,jE (by omega)]
 ·rw[if_neg e,bC e]
theorem oz{S:Setup}(hp:0 <= S.players)(k:Int):af S k=-1 \/ (0 <= k /\ k<S.nb /\ af S k=48+4*S.players+8*k):=by
 unfold af;split
 ·exact .inl rfl
 ·split
  ·exact .inl rfl
  ·exact .inr ⟨by omega,by omega,rfl⟩
theorem uu{S:Setup}(k:Int):(ah S k=-1 /\ (k<0 \/ S.players <= k)) \/ (0 <= k /\ k<S.players /\ ah S k=48+4*k):=by
 unfold ah;split
 ·exact .inl ⟨rfl,by omega⟩
 ·split
  ·exact .inl ⟨rfl,by omega⟩
  ·exact .inr ⟨by omega,by omega,rfl⟩
structure Hi(P:Int)(M M':MemS):Prop where
 len:M'.cs.length=M.cs.length
 get:∀j,j<48+4*P -> M'.get j=M.get j
theorem Hi.refl{P:Int}{M:MemS}:Hi P M M:=⟨rfl,λ _ _=>rfl⟩
theorem Hi.set{P:Int}{A M:MemS}(h:Hi P A M){k:Int}(hk:48+4*P <= k)(v:Int):Hi P A (M.set k v):=⟨(aP _ _ _).trans h.len,λ j hj=>(bC (by omega)).trans (h.get j hj)⟩
theorem Hi.setB{S:Setup}(hp:0 <= S.players){A M:MemS}(h:Hi S.players A M){k c:Int}(hb:af S k >= 0)(hc:0 <= c)(v:Int):Hi S.players A (M.set (af S k+c) v):=by
 rcases oz hp k with e|⟨h0,h1,e⟩
 ·omega
 ·exact h.set (by omega) v
structure Kp(P:Int)(M M':MemS):Prop where
 len:M'.cs.length=M.cs.length
 get:∀j,j <= 5 \/ (48 <= j /\ j<48+4*P) -> M'.get j=M.get j
theorem Kp.refl{P:Int}{M:MemS}:Kp P M M:=⟨rfl,λ _ _=>rfl⟩
theorem Kp.set{P:Int}{A M:MemS}(h:Kp P A M){k:Int}(hk:5<k /\ (k<48 \/ 48+4*P <= k))(v:Int):Kp P A (M.set k v):=⟨(aP _ _ _).trans h.len,λ j hj=>(bC (by omega)).trans (h.get j hj)⟩
theorem Kp.trans{P:Int}{A B C:MemS}(h:Kp P A B)(h':Kp P B C):Kp P A C:=⟨h'.len.trans h.len,λ j hj=>(h'.get j hj).trans (h.get j hj)⟩
structure Ef(M:MemS)(r:VR):Prop where
 yes:r.em=true -> r.e.t=M.get 0 /\ r.e.i=M.get 11 /\ M.get 11<40 /\ r.M.get 11=M.get 11+1
 no:r.em=false -> r.M.get 11=M.get 11
theorem R8{op:Int}(h:1 <= op /\ op <= 21):(0 <= eP op /\ eP op <= 2) /\ (0 <= eQ op /\ eQ op <= 1):=by
 obtain⟨n,rfl⟩:=Int.eq_ofNat_of_zero_le (show 0 <= op by omega);have hn:n<22:=by omega
 have key:∀n:Fin 22,(0 <= (nT.getD n.1 (0,0,0)).1 /\ (nT.getD n.1 (0,0,0)).1 <= 2) /\ (0 <= (nT.getD n.1 (0,0,0)).2.1 /\ (nT.getD n.1 (0,0,0)).2.1 <= 1):=by decide
 exact key ⟨n,hn⟩
theorem Jm{op n sp:Int}(h:fh op n sp=true):(1 <= op /\ op <= 21) /\ sp <= 16 /\ eP op <= sp /\ ¬ bd (bd (sp-eP op)+eQ op)>16 /\ (eN op=0 \/ (0 <= n /\ n<eN op)):=by
 unfold fh at h;split at h
 ·cases h
 split at h
 ·cases h
 split at h
 ·cases h
 split at h
 ·cases h
 split at h
 ·cases h
 refine⟨by omega,by omega,by omega,by assumption,?_⟩;split at h
 ·left;assumption
 ·split at h
  ·right;exact⟨by omega,aa5 h⟩
  ·cases h
theorem L7{M:MemS}{P k v:Int}(hl:48 <= M.cs.length)(h0:0 <= M.get 11 /\ M.get 11 <= 40):Kp P M (cG k v M).M /\ (cG k v M).M.get 8=M.get 8 /\ Ef M (cG k v M):=by
 unfold cG;split
 ·exact⟨.refl,rfl,⟨λ h=>by simp at h,λ _=>rfl⟩⟩
 ·refine⟨((Kp.refl).set (by omega) _).set (by omega) _,?_,⟨λ _=>⟨rfl,rfl,by omega,?_⟩,λ h=>by simp at h⟩⟩
  ·simp only;rw[bC (by decide),bC (by decide)]
  ·simp only;rw[jE (by rw[aP];omega),dh (by omega)]
def Gd(P:Int)(M:MemS)(r:VR):Prop:=Kp P M r.M /\ r.M.get 8=M.get 8 /\ Ef M r
theorem nq{P:Int}{M:MemS}{c:Prop}[Decidable c]{x y:VR}(hx:c -> Gd P M x)(hy:¬ c -> Gd P M y):Gd P M (if c then x else y):=by
 split
 ·exact hx (by assumption)
 ·exact hy (by assumption)
theorem Gd.base{P:Int}{M:MemS}{v:Int}:Gd P M ⟨M,v,bB,false⟩:=⟨.refl,rfl,⟨λ h=>by simp at h,λ _=>rfl⟩⟩
theorem Gd.st{P:Int}{M:MemS}{k v u:Int}(hk:(5<k /\ k≠8 /\ k≠11) /\ (k<48 \/ 48+4*P <= k)):Gd P M ⟨M.set k v,u,bB,false⟩ :=
 ⟨(Kp.refl).set (by omega) _,bC (by omega),⟨λ h=>by simp at h,λ _=>bC (by omega)⟩⟩
theorem Gd.mite{P:Int}{M X Y:MemS}{c:Prop}[Decidable c]{u:Int}(hx:c -> Gd P M ⟨X,u,bB,false⟩)(hy:¬ c -> Gd P M ⟨Y,u,bB,false⟩):Gd P M ⟨if c then X else Y,u,bB,false⟩:=by
 split
 ·exact hx (by assumption)
 ·exact hy (by assumption)
theorem L8{S:Setup}(hS:SetV S){M:MemS}{op n a b:Int}(hl:48 <= M.cs.length)(h0:0 <= M.get 11 /\ M.get 11 <= 40)(hn:eN op=0 \/ (0 <= n /\ n<eN op)):Gd S.players M (aC S op n a b M):=by
 have hpl:=hS.pl;have Wc:=hS.nb;unfold aC
 iterate 14 (refine nq (λ _=>.base) λ _=>?_)
 refine nq (λ e=>?_) λ _=>?_
 ·subst e;have SY:0 <= n /\ n<16:=by
   rcases hn with h|h
   ·exact absurd h (by decide)
   ·exact h
  rw[dh (by omega)];exact .st (by omega)
 refine nq (λ _=>.base) λ _=>?_;refine nq (λ e=>?_) λ _=>?_
 ·subst e;have h8:0 <= n /\ n<8:=by
   rcases hn with h|h
   ·exact absurd h (by decide)
   ·exact h
  refine Gd.mite (λ hb=>?_) λ _=>.base;rcases oz (S:=S) (by omega) a with e|⟨b0,b1,e⟩
  ·omega
  ·rw[dh (by omega)];exact .st (by omega)
 refine nq (λ _=>.st (by omega)) λ _=>?_;refine nq (λ _=>.mite (λ _=>.st (by omega)) λ _=>.base) λ _=>?_;refine nq (λ _=>?_) λ _=>.base;obtain⟨q1,q2,q3⟩:=L7 (P:=S.players) (k:=a) (v:=b) hl h0;exact⟨q1,q2,⟨q3.yes,q3.no⟩⟩
theorem L9{P:Int}{M:MemS}{op sp pc fuel:Int}(hl:48 <= M.cs.length):Kp P M (dJ op sp pc fuel M) /\ (dJ op sp pc fuel M).get 8=bd (fuel-1) /\ (dJ op sp pc fuel M).get 11=M.get 11:=by
 unfold dJ;split
 ·exact⟨((Kp.refl).set (by omega) _).set (by omega) _,by rw[bC (by decide),jE (by omega)],by rw[bC (by decide),bC (by decide)]⟩
 ·exact⟨(((Kp.refl).set (by omega) _).set (by omega) _).set (by omega) _,by rw[bC (by decide),bC (by decide),jE (by omega)],by rw[bC (by decide),bC (by decide),bC (by decide)]⟩
theorem yR{S:Setup}(hS:SetV S){M:MemS}{code:List Ins}{n:Nat}(hl:48 <= M.cs.length)(h0:0 <= M.get 11 /\ M.get 11 <= 40)(hf:0 <= M.get 8 /\ M.get 8 <= 60) :
  Kp S.players M (ak S code n M).M /\ Ef M (ak S code n M) /\ ((dZ code n M /\ (ak S code n M).M.get 8=M.get 8-1 /\ 1 <= M.get 8) \/ (¬ dZ code n M /\ bz code n M=true /\ (ak S code n M).M.get 8=M.get 8)):=by
 unfold ak
 by_cases hr:dZ code n M
 ·rw[if_pos hr];obtain⟨r1,r2,r3,r4⟩:=hr;obtain⟨x1,x2,x3,x4,x5⟩:=Jm r4;have hp:=L9 (P:=S.players) (op:=(br code M).op) (sp:=M.get 7) (pc:=M.get 6) (fuel:=M.get 8) hl;generalize hM1:dJ (br code M).op (M.get 7) (M.get 6) (M.get 8) M=M1 at *;obtain⟨p1,p2,p3⟩:=hp;rw[dh (by omega)] at p2;have he:=L8 hS (M:=M1) (op:=(br code M).op) (n:=(br code M).n) (a:=eo (br code M).op (M.get 7) M) (b:=ep (br code M).op (M.get 7) M) (by rw[p1.len];exact hl) (by rw[p3];exact h0) x5;unfold bJ;rw[hM1];generalize aC S (br code M).op (br code M).n (eo (br code M).op (M.get 7) M) (ep (br code M).op (M.get 7) M) M1=r at *;obtain⟨g1,g2,g3⟩:=he;have hE:Ef M r:=⟨λ h=>by
   obtain⟨a1,a2,a3,a4⟩:=g3.yes h;rw[p1.get 0 (by omega)] at a1;rw[p3] at a2 a3 a4;exact⟨a1,a2,a3,a4⟩,λ h=>by rw[g3.no h,p3]⟩
  have hb:=R8 x1;unfold b7;split
  ·have hq:bd (bd (16+M.get 7)-eP (br code M).op)=16+M.get 7-eP (br code M).op:=by rw[dh (x:=16+M.get 7) (by omega),dh (by omega)]
   rw[dh (x:=M.get 7-eP (br code M).op) (by omega),dh (by omega)] at x4;rw[hq];refine⟨(p1.trans g1).set (by omega) _,⟨λ h=>?_,λ h=>?_⟩,.inl ⟨⟨r1,r2,r3,r4⟩,?_,by omega⟩⟩
   ·obtain⟨a1,a2,a3,a4⟩:=hE.yes h;exact⟨a1,a2,a3,(bC (by omega)).trans a4⟩
   ·exact(bC (by omega)).trans (hE.no h)
   ·simp only;rw[bC (by omega),g2,p2]
  ·exact⟨p1.trans g1,hE,.inl ⟨⟨r1,r2,r3,r4⟩,by rw[g2,p2],by omega⟩⟩
 ·rw[if_neg hr];exact⟨.refl,⟨λ h=>by simp at h,λ _=>rfl⟩,.inr ⟨hr,by unfold bz;rw[if_neg hr],rfl⟩⟩
def l6(n i j fu:Int):Int:=(if j=0 then (n-i)*62 else (n-i-1)*62+fu+1)+1+n
def l5(n i j:Int):Int:=n*(n+1)-(i*(n+1)+j)+l6 n 0 0 0
def MT(n i:Int):Int:=if i=0 then 0 else if i=1 then n-1 else if i=2 then 2*n-3 else 3*n-6
def OL(n:Int):Int:=if n=2 then 1 else if n=3 then 3 else if n=4 then 6 else if n=5 then 10 else 0
def l4(n R i j r:Int):Int:=(if n<2 then 0 else (R-r)*OL n-(MT n i+(j-i-1)))+1+l5 n 0 0
def l3(n R i:Int):Int:=n-i+l4 n R 0 1 0
def l2(n R j fu:Int):Int:=(if j=0 then 62 else fu+1)+l3 n R 0
def l1(P n R i j fu:Int):Int:=(if j=0 then (P-i)*62 else (P-i-1)*62+fu+1)+1+l2 n R 0 0
def l0(P n R i:Int):Int:=P-i+l1 P n R 0 0 0
def FK(P n R p i j r fu:Int):Int:=if p=0 then l0 P n R i else if p=1 then l1 P n R i j fu else if p=2 then l2 n R j fu else if p=3 then l3 n R i else if p=4 then l4 n R i j r else if p=5 then l5 n i j else if p=6 then l6 n i j fu else n-i
def Pc(P n R p i j r fu:Int):Prop :=
 (p=0 /\ 0 <= i /\ i<P) \/ (p=1 /\ 0 <= i /\ i <= P /\ (j=0 \/ (j=1 /\ i<P /\ 0 <= fu /\ fu <= 60))) \/ (p=2 /\ (j=0 \/ (j=1 /\ 0 <= fu /\ fu <= 60))) \/ (p=3 /\ 0 <= i /\ i<n) \/
 (p=4 /\ 0 <= r /\ r <= R /\ (2 <= n -> 0 <= i /\ i<j /\ j<n /\ (r=R -> i=0 /\ j=1))) \/ (p=5 /\ 0 <= i /\ i<n /\ 0 <= j /\ j <= n) \/ (p=6 /\ 0 <= i /\ i <= n /\ (j=0 \/ (j=1 /\ i<n /\ 0 <= fu /\ fu <= 60))) \/ (p=7 /\ 0 <= i /\ i<n)
theorem Jn{n i j:Int}(hn:1 <= n /\ n <= 5)(hi:0 <= i /\ i<n)(hj:0 <= j /\ j <= n):0<l5 n i j:=by
 unfold l5 l6;obtain h|h|h|h|h:n=1 \/ n=2 \/ n=3 \/ n=4 \/ n=5:=by omega
 all_goals subst h;simp;omega
theorem CT{P n R p i j r fu:Int}(hP:1 <= P /\ P <= 3)(hn:1 <= n /\ n <= 5)(hR:1 <= R /\ R <= 3)(h:Pc P n R p i j r fu):0<FK P n R p i j r fu:=by
 have h5:=Jn hn (i:=0) (j:=0) (by omega) (by omega);have h4:∀i j r,0 <= r -> r <= R -> (2 <= n -> 0 <= i /\ i<j /\ j<n) -> -9 <= (if n<2 then 0 else (R-r)*OL n-(MT n i+(j-i-1))) -> 0<l4 n R i j r+9:=λ i j r _ _ _ h=>by unfold l4;omega
 have k4:0<l4 n R 0 1 0:=by
  unfold l4 OL MT;obtain h|h|h|h|h:n=1 \/ n=2 \/ n=3 \/ n=4 \/ n=5:=by omega
  all_goals subst h;simp;omega
 have k3:0<l3 n R 0:=by unfold l3;omega
 have k2:∀j fu,(j=0 \/ (j=1 /\ 0 <= fu /\ fu <= 60)) -> 0<l2 n R j fu:=λ j fu h=>by unfold l2;split <;> omega
 have k20:=k2 0 0 (.inl rfl);have k1:∀i j fu,0 <= i -> i <= P -> (j=0 \/ (j=1 /\ i<P /\ 0 <= fu /\ fu <= 60)) -> 0<l1 P n R i j fu:=λ i j fu _ _ h=>by unfold l1;split <;> omega
 have k10:=k1 0 0 0 (by omega) (by omega) (.inl rfl);rcases h with h|h|h|h|h|h|h|h <;> obtain⟨rfl,h⟩:=h
 ·show 0<l0 P n R i;unfold l0;omega
 ·exact k1 i j fu h.1 h.2.1 h.2.2
 ·exact k2 j fu h
 ·show 0<l3 n R i;unfold l3;omega
 ·show 0<l4 n R i j r;unfold l4;split
  ·omega
  ·obtain⟨h1,h2,h3⟩:=h;obtain⟨h3,h4',h5',-⟩:=h3 (by omega);have:100<l5 n 0 0:=by
    unfold l5 l6;obtain h|h|h|h|h:n=1 \/ n=2 \/ n=3 \/ n=4 \/ n=5:=by omega
    all_goals first|omega|(subst h;simp)
   have h6:MT n i <= 9:=by unfold MT;(repeat' split) <;> omega
   have h7:0 <= (R-r)*OL n:=Int.mul_nonneg (by omega) (by unfold OL;(repeat' split) <;> omega);omega
 ·exact Jn hn ⟨h.1,h.2.1⟩ h.2.2
 ·show 0<l6 n i j fu;unfold l6;split <;> omega
 ·show 0<n-i;omega
abbrev FM(M:MemS):Prop:=M.get 1=0 /\ M.get 2=0
structure TV(S:Setup)(ins:Nat -> Inp)(M:MemS):Prop where
 len:(M.cs.length:Int)=sizeOf S
 t0:0 <= M.get 0 /\ M.get 0 <= 1000000
 ct:Pc S.players S.nb S.rounds (M.get 1) (M.get 2) (M.get 3) (M.get 4) (M.get 8)
 pl:∀q:Nat,(q:Int)<(if M.get 1=0 then M.get 2 else S.players) -> M.get (48+4*q)=(ins q).dx /\ M.get (48+4*q+1)=(ins q).dy /\ M.get (48+4*q+2)=(ins q).act
 ec:FM M \/ (0 <= M.get 11 /\ M.get 11 <= 40)
abbrev nA(S:Setup)(M:MemS):Int:=FK S.players S.nb S.rounds (M.get 1) (M.get 2) (M.get 3) (M.get 4) (M.get 8)
structure Nx(S:Setup)(ins:Nat -> Inp)(M:MemS)(r:VR):Prop where
 tv:TV S ins r.M
 lt:nA S r.M<nA S M
 ph:M.get 1 <= r.M.get 1
 t0:r.M.get 0=M.get 0
 ns:¬ FM r.M
 yes:r.em=true -> ¬ FM M /\ r.e.t=M.get 0 /\ r.e.i=M.get 11 /\ r.M.get 11=M.get 11+1
 no:r.em=false -> r.M.get 11=if FM M then 0 else M.get 11
theorem TV.l48{S:Setup}(hS:SetV S){ins:Nat -> Inp}{M:MemS}(h:TV S ins M):48 <= M.cs.length:=by
 have:=h.len;have:=hS.pl;unfold sizeOf at *;omega
theorem iy{S:Setup}(hS:SetV S){ins:Nat -> Inp}{M N:MemS}{r:VR}{p i j q x fu:Int}(h:TV S ins M)(hp:1 <= M.get 1)(hN:Kp S.players M N)(hlen:r.M.cs.length=N.cs.length)
  (g:∀k,r.M.get k=if k=1 then p else if k=2 then i else if k=3 then j else if k=4 then q else if k=5 then x else N.get k) (h8:N.get 8=fu)
  (hE:Ef M ⟨N,r.v,r.e,r.em⟩) (hc:Pc S.players S.nb S.rounds p i j q fu) (YF:M.get 1 <= p) (iF:FK S.players S.nb S.rounds p i j q fu<nA S M):Nx S ins M r:=by
 have ha:¬ FM M:=λ e=>by have:=e.1;omega
 have g0:r.M.get 0=M.get 0:=by rw[g];simp;exact hN.get 0 (by omega)
 have g1:r.M.get 1=p:=by rw[g];simp
 have g2:r.M.get 2=i:=by rw[g];simp
 have g3:r.M.get 3=j:=by rw[g];simp
 have g4:r.M.get 4=q:=by rw[g];simp
 have g8:r.M.get 8=fu:=by rw[g];simp;exact h8
 have g11:r.M.get 11=N.get 11:=by rw[g];simp
 have gp:∀k,48 <= k -> k<48+4*S.players -> r.M.get k=M.get k:=λ k h1 h2=>by
  rw[g,if_neg (by omega),if_neg (by omega),if_neg (by omega),if_neg (by omega),if_neg (by omega)];exact hN.get k (by omega)
 have ZP:0 <= M.get 11 /\ M.get 11 <= 40:=by
  rcases h.ec with e|e
  ·exact absurd e ha
  ·exact e
 refine⟨⟨by rw[hlen,hN.len];exact h.len,by rw[g0];exact h.t0,by rw[g1,g2,g3,g4,g8];exact hc,λ k hk=>?_,.inr ?_⟩,?_,by rw[g1];exact YF,g0,λ e=>by rw[FM,g1] at e;have:=e.1;omega,λ e=>?_,λ e=>?_⟩
 ·rw[g1,if_neg (by omega)] at hk;have:=h.pl k (by rw[if_neg (by omega)];exact hk);rw[gp _ (by omega) (by omega),gp _ (by omega) (by omega),gp _ (by omega) (by omega)];exact this
 ·rw[g11];cases he:r.em with
  | true=>obtain⟨a,b,c,d⟩:=hE.yes he;simp only at d;omega
  | false=>have:=hE.no he;simp only at this;omega
 ·unfold nA;rw[g1,g2,g3,g4,g8];exact iF
 ·obtain⟨a,b,c,d⟩:=hE.yes e;exact⟨ha,a,b,by rw[g11];exact d⟩
 ·rw[if_neg ha,g11];exact hE.no e
theorem Hi.kp{P:Int}{M N:MemS}(h:Hi P M N)(hP:0 <= P):Kp P M N:=⟨h.len,λ j hj=>h.get j (by omega)⟩
theorem Hi.ef{P:Int}{M N:MemS}(h:Hi P M N)(hP:0 <= P){v:Int}{e:Eff}:Ef M ⟨N,v,e,false⟩:=⟨λ h=>by simp at h,λ _=>h.get 11 (by omega)⟩
theorem kg{M:MemS}(h:48 <= M.cs.length)(t:Stp)(a b j:Int):(aM t a b M).get j=if j=3 then b else if j=2 then 0 else if j=1 then a else M.get j:=by
 unfold aM;rw[bU (by simp only[aP];exact h) (by omega) (by omega),bU (by simp only[aP];exact h) (by omega) (by omega),bU h (by omega) (by omega)]
theorem ge{M:MemS}(t:Stp)(a b:Int):(aM t a b M).cs.length=M.cs.length:=by unfold aM;simp only[aP]
theorem if5{k p i j q x z:Int}{f:Int -> Int}(h:(if k=3 then j else if k=2 then i else if k=1 then p else f k)=z)(hq:q=f 4)(hx:x=f 5):z=if k=1 then p else if k=2 then i else if k=3 then j else if k=4 then q else if k=5 then x else f k:=by
 subst h hq hx
 by_cases e1:k=1
 ·subst e1;simp
 by_cases e2:k=2
 ·subst e2;simp
 by_cases e3:k=3
 ·subst e3;simp
 by_cases e4:k=4
 ·subst e4;simp
 by_cases e5:k=5
 ·subst e5;simp
 simp[e1,e2,e3,e4,e5]
theorem R9{k i z:Int}{f:Int -> Int}(h:(if k=2 then i else f k)=z):z=if k=1 then f 1 else if k=2 then i else if k=3 then f 3 else if k=4 then f 4 else if k=5 then f 5 else f k:=by
 subst h
 by_cases e1:k=1
 ·subst e1;simp
 by_cases e2:k=2
 ·subst e2;simp
 by_cases e3:k=3
 ·subst e3;simp
 by_cases e4:k=4
 ·subst e4;simp
 by_cases e5:k=5
 ·subst e5;simp
 simp[e1,e2,e3,e4,e5]
theorem Jo{S:Setup}(hS:SetV S){t:Stp}(ht:t.S=S)(M:MemS):Hi S.players M (bH t (bD t M)):=by
 have hp:0 <= S.players:=by have:=hS.pl;omega
 subst ht;have ha:Hi t.S.players M (bD t M):=by
  unfold bD;split
  ·exact(Hi.refl).setB hp (by omega) (by omega) _
  ·exact .refl
 unfold bH;split
 ·next hm =>
  have hb:af t.S t.i >= 0:=by
   rcases oz hp t.i with e|⟨_,_,e⟩
   ·unfold af at e;rw[if_neg (by have:=hm.1;omega),if_neg (by have:=hm.1;omega)] at e;have:=hm.1;omega
   ·omega
  exact(ha.setB hp hb (by omega) _).setB hp hb (by omega) _
 ·exact ha
theorem q3{S:Setup}(hS:SetV S){g:Gm}(hg:g.S=S){ins:Nat -> Inp}{M:MemS}(h:TV S ins M)(hp:M.get 1=3):Nx S ins M ⟨aS (g.step M) M,0,bB,false⟩:=by
 have hpl:=hS.pl;have Wc:=hS.nb;have SI:=hS.ro;have hc:0 <= M.get 2 /\ M.get 2<S.nb:=by rcases h.ct with h|h|h|h|h|h|h|h <;> omega
 have hh:=Jo hS (t:=g.step M) hg M;have hl:=h.l48 hS;unfold aS bQ;generalize bH (g.step M) (bD (g.step M) M)=N at *;have SB:48 <= N.cs.length:=by rw[hh.len];exact hl
 have e1:=hh.get 1 (by omega);have e2:=hh.get 2 (by omega);have e3:=hh.get 3 (by omega);have e4:=hh.get 4 (by omega);have e8:=hh.get 8 (by omega);show Nx S ins M ⟨if bd (M.get 2+1)<g.S.nb then N.set 2 (bd (M.get 2+1)) else _,0,bB,false⟩;rw[dh (by omega),hg];split
 ·refine iy hS h (by omega) (hh.kp (by omega)) (aP _ _ _) (λ k=>R9 (f:=N.get) (bU SB (by omega) (by omega) k).symm) e8 (hh.ef (by omega)) ?_ (by omega) ?_
  ·rw[e1,e3,e4,hp];exact .inr (.inr (.inr (.inl ⟨rfl,by omega,by omega⟩)))
  ·unfold nA;rw[e1,e3,e4,hp];show l3 S.nb S.rounds (M.get 2+1)<l3 S.nb S.rounds (M.get 2);unfold l3;omega
 ·refine iy hS h (by omega) (hh.kp (by omega)) ((aP _ _ _).trans (ge _ _ _)) (p:=4) (i:=0) (j:=1) (q:=0) (x:=N.get 5) (λ k=>?_) e8 (hh.ef (by omega)) ?_ (by omega) ?_
  ·rw[bU (by rw[ge];exact SB) (by omega) (by omega),kg SB]
   by_cases k4:k=4
   ·subst k4;simp
   ·rw[if_neg k4]
    by_cases k1:k=1
    ·subst k1;simp
    by_cases k2:k=2
    ·subst k2;simp
    by_cases k3:k=3
    ·subst k3;simp
    by_cases k5:k=5
    ·subst k5;simp
    simp[k1,k2,k3,k4,k5]
  ·exact .inr (.inr (.inr (.inr (.inl ⟨rfl,by omega,by omega,λ _=>by omega⟩))))
  ·unfold nA;rw[hp];show l4 S.nb S.rounds 0 1 0<l3 S.nb S.rounds (M.get 2);unfold l3;omega
theorem pw{S:Setup}(hp:0 <= S.players){k:Int}(h:0 <= k /\ k<S.nb):af S k >= 0:=by
 unfold af;rw[if_neg (by omega),if_neg (by omega)];omega
theorem Hi.setMot{S:Setup}(hp:0 <= S.players){A M:MemS}(h:Hi S.players A M){t:Stp}(ht:t.S=S){k:Int}(hb:af S k >= 0)(m:Mot):Hi S.players A (dq t k m M):=by
 subst ht;unfold dq;exact(((h.setB hp hb (by omega) _).setB hp hb (by omega) _).setB hp hb (by omega) _).setB hp hb (by omega) _
theorem Jp{S:Setup}(hS:SetV S){t:Stp}(ht:t.S=S)(M:MemS):Hi S.players M (dK t M):=by
 have hp:0 <= S.players:=by have:=hS.pl;omega
 unfold dK;rw[ht];split
 ·next h1 =>
  split
  ·next h2 =>
   split
   ·have b1:=pw hp h1;have b2:=pw hp h2;unfold fC;rw[ht];exact(((((Hi.refl).setMot hp ht b1 _).setMot hp ht b2 _).setB hp b1 (by omega) _).setB hp b2 (by omega) _)
   ·exact .refl
  ·exact .refl
 ·exact .refl
theorem q4{S:Setup}(hS:SetV S){g:Gm}(hg:g.S=S){ins:Nat -> Inp}{M:MemS}(h:TV S ins M)(hp:M.get 1=4):Nx S ins M ⟨bF (g.step M) M,0,bB,false⟩:=by
 have hpl:=hS.pl;have Wc:=hS.nb;have SI:=hS.ro;have hc:0 <= M.get 4 /\ M.get 4 <= S.rounds /\ (2 <= (S.nb:Int) -> 0 <= M.get 2 /\ M.get 2<M.get 3 /\ M.get 3<S.nb /\ (M.get 4=S.rounds -> M.get 2=0 /\ M.get 3=1)):=by rcases h.ct with h|h|h|h|h|h|h|h <;> omega
 have hl:=h.l48 hS;have hh:=Jp hS (t:=g.step M) hg M;have fin:nA S M>l5 S.nb 0 0 -> Nx S ins M ⟨(aM (g.step M) 5 0 M).set 5 1024,0,bB,false⟩:=λ iF=>by
  refine iy hS h (by omega) ((Hi.refl (P:=S.players)).kp (by omega)) ((aP _ _ _).trans (ge _ _ _)) (p:=5) (i:=0) (j:=0) (q:=M.get 4) (x:=1024) (fu:=M.get 8) (λ k=>?_) rfl ((Hi.refl (P:=S.players)).ef (by omega)) (.inr (.inr (.inr (.inr (.inr (.inl ⟨rfl,by omega,by omega,by omega,by omega⟩)))))) (by omega) iF;rw[bU (by rw[ge];exact hl) (by omega) (by omega),kg hl]
  by_cases k5:k=5
  ·subst k5;simp
  ·rw[if_neg k5]
   by_cases k1:k=1
   ·subst k1;simp
   by_cases k2:k=2
   ·subst k2;simp
   by_cases k3:k=3
   ·subst k3;simp
   by_cases k4:k=4
   ·subst k4;simp
   simp[k1,k2,k3,k4,k5]
 have e4l:nA S M=l4 S.nb S.rounds (M.get 2) (M.get 3) (M.get 4):=by unfold nA;rw[hp];rfl
 unfold bF;show Nx S ins M ⟨if (g.S.nb:Int)<2 then _ else if M.get 4 >= g.S.rounds then _ else _,0,bB,false⟩;rw[hg];split
 ·next h2=>exact fin (by rw[e4l];unfold l4;rw[if_pos h2];omega)
 split
 ·next h2 h3 =>
  refine fin ?_;have e:M.get 4=S.rounds:=by omega
  obtain⟨c1,c2,c3,c4⟩:=hc.2.2 (by omega);obtain⟨d1,d2⟩:=c4 e;rw[e4l,e,d1,d2];unfold l4;rw[if_neg (by omega),Int.sub_self,Int.zero_mul];show _>_;unfold MT;simp only[if_true];omega
 next h2 h3 =>
 obtain⟨c1,c2,c3,-⟩:=hc.2.2 (by omega);show Nx S ins M ⟨(((dK (g.step M) M).set 4 (dz (M.get 2) (M.get 3) g.S.nb (M.get 4)).1).set 2 (dz (M.get 2) (M.get 3) g.S.nb (M.get 4)).2.1).set 3 (dz (M.get 2) (M.get 3) g.S.nb (M.get 4)).2.2,0,bB,false⟩;rw[hg];generalize dK (g.step M) M=N at *;have SB:48 <= N.cs.length:=by rw[hh.len];exact hl
 have e1:=hh.get 1 (by omega);have e5:=hh.get 5 (by omega);have e8:=hh.get 8 (by omega);have hq:(0 <= (dz (M.get 2) (M.get 3) S.nb (M.get 4)).1 /\ (dz (M.get 2) (M.get 3) S.nb (M.get 4)).1 <= S.rounds) /\ (0 <= (dz (M.get 2) (M.get 3) S.nb (M.get 4)).2.1 /\ (dz (M.get 2) (M.get 3) S.nb (M.get 4)).2.1<(dz (M.get 2) (M.get 3) S.nb (M.get 4)).2.2 /\ (dz (M.get 2) (M.get 3) S.nb (M.get 4)).2.2<S.nb /\ ((dz (M.get 2) (M.get 3) S.nb (M.get 4)).1=S.rounds -> (dz (M.get 2) (M.get 3) S.nb (M.get 4)).2.1=0 /\ (dz (M.get 2) (M.get 3) S.nb (M.get 4)).2.2=1)) /\
   l4 S.nb S.rounds (dz (M.get 2) (M.get 3) S.nb (M.get 4)).2.1 (dz (M.get 2) (M.get 3) S.nb (M.get 4)).2.2 (dz (M.get 2) (M.get 3) S.nb (M.get 4)).1<l4 S.nb S.rounds (M.get 2) (M.get 3) (M.get 4):=by
  have hn2:(2:Int) <= S.nb /\ (S.nb:Int) <= 5:=by omega
  have Vg:M.get 4<S.rounds:=by omega
  have hq0:=hc.1;unfold dz;rw[dh (by omega),dh (by omega),dh (by omega),dh (by omega)];clear e1 e5 e8 e4l fin hc h;generalize M.get 2=i at *;generalize M.get 3=j at *;generalize M.get 4=q at *;generalize S.rounds=R at *;generalize (S.nb:Int)=n at *;split
  ·simp only;refine⟨⟨by omega,by omega⟩,⟨by omega,by omega,by omega,λ e=>by omega⟩,?_⟩;unfold l4;rw[if_neg (by omega),if_neg (by omega)];omega
  ·split
   ·refine⟨⟨by simp only;omega,by simp only;omega⟩,⟨by simp only;omega,by simp only;omega,by simp only;omega,λ e=>by simp only at e;omega⟩,?_⟩;simp only;unfold l4 MT OL;obtain h|h|h|h:n=2 \/ n=3 \/ n=4 \/ n=5:=by omega
    all_goals subst h
    all_goals (have:i=0 \/ i=1 \/ i=2:=by omega)
    all_goals (rcases this with rfl|rfl|rfl)
    all_goals first|omega|(simp;omega)
   ·refine⟨⟨by simp only;omega,by simp only;omega⟩,⟨by simp only;omega,by simp only;omega,by simp only;omega,λ e=>⟨rfl,rfl⟩⟩,?_⟩;simp only;unfold l4 MT OL;obtain h|h|h|h:n=2 \/ n=3 \/ n=4 \/ n=5:=by omega
    all_goals subst h
    all_goals (have:i=0 \/ i=1 \/ i=2 \/ i=3:=by omega)
    all_goals (rcases this with rfl|rfl|rfl|rfl)
    all_goals first|omega|(simp;omega)
 generalize dz (M.get 2) (M.get 3) S.nb (M.get 4)=z at *;refine iy hS h (by omega) (hh.kp (by omega)) (by simp only[aP]) (p:=4) (i:=z.2.1) (j:=z.2.2) (q:=z.1) (x:=N.get 5) (λ k=>?_) e8 (hh.ef (by omega)) (.inr (.inr (.inr (.inr (.inl ⟨rfl,hq.1.1,hq.1.2,λ _=>hq.2.1⟩))))) (by omega) (by rw[e4l];exact hq.2.2);rw[bU (by simp only[aP];exact SB) (by omega) (by omega),bU (by simp only[aP];exact SB) (by omega) (by omega),bU SB (by omega) (by omega)]
 by_cases k1:k=1
 ·subst k1;simp;omega
 by_cases k2:k=2
 ·subst k2;simp
 by_cases k3:k=3
 ·subst k3;simp
 by_cases k4:k=4
 ·subst k4;simp
 by_cases k5:k=5
 ·subst k5;simp
 simp[k1,k2,k3,k4,k5]
theorem yS{S:Setup}(hp:0 <= S.players){A M:MemS}(h:Hi S.players A M){t:Stp}{k c d:Int}(hb:af S k >= 0)(hc:0 <= c)(hd:0 <= d)(pos lo hi:Int):Hi S.players A (dR t (af S k+c) (af S k+d) pos lo hi M):=by
 unfold dR;split
 ·exact h.setB hp hb hc _
 ·exact(h.setB hp hb hc _).setB hp hb hd _
theorem E6{S:Setup}(hp:0 <= S.players){t:Stp}(ht:t.S=S)(M:MemS)(hb:af S t.i >= 0):Hi S.players M (cU t M):=by
 subst ht;unfold cU;exact yS hp (yS hp .refl hb (by omega) (by omega) _ _ _) hb (by omega) (by omega) _ _ _
theorem Jq(t:Stp){M:MemS}(hl:48 <= M.cs.length)(k:Int):(eL t M).get k=(if k=5 then (eL t M).get 5 else M.get k) /\ (eL t M).cs.length=M.cs.length:=by
 have id5:M.get k=if k=5 then M.get 5 else M.get k:=by
  by_cases e:k=5
  ·rw[if_pos e,e]
  ·rw[if_neg e]
 unfold eL;split
 ·exact⟨id5,rfl⟩
 ·split
  ·split
   ·refine⟨?_,aP _ _ _⟩;rw[bU hl (by omega) (by omega),bU hl (by omega) (by omega)];split <;> simp
   ·exact⟨id5,rfl⟩
  ·exact⟨id5,rfl⟩
theorem q5{S:Setup}(hS:SetV S){g:Gm}(hg:g.S=S){ins:Nat -> Inp}{M:MemS}(h:TV S ins M)(hp:M.get 1=5):Nx S ins M ⟨dQ (g.step M) M,0,bB,false⟩:=by
 have hpl:=hS.pl;have Wc:=hS.nb;have SI:=hS.ro;have hc:(0 <= M.get 2 /\ M.get 2<S.nb) /\ 0 <= M.get 3 /\ M.get 3 <= S.nb:=by rcases h.ct with h|h|h|h|h|h|h|h <;> omega
 have hl:=h.l48 hS;have e5l:nA S M=l5 S.nb (M.get 2) (M.get 3):=by unfold nA;rw[hp];rfl
 unfold dQ;show Nx S ins M ⟨if 0 <= M.get 3 /\ M.get 3<g.S.nb then (eL (g.step M) M).set 3 (bd (M.get 3+1)) else fD (g.step M) (if movP g.S (M.get 2) then cU (g.step M) M else M),0,bB,false⟩;rw[hg];split
 ·next hj =>
  rw[dh (by omega)];have ht:=Jq (g.step M) hl;refine iy hS h (by omega) ((Hi.refl (P:=S.players)).kp (by omega)) ((aP _ _ _).trans (ht 0).2) (p:=5) (i:=M.get 2) (j:=M.get 3+1) (q:=M.get 4) (x:=(eL (g.step M) M).get 5) (fu:=M.get 8) (λ k=>?_) rfl ((Hi.refl (P:=S.players)).ef (by omega)) (.inr (.inr (.inr (.inr (.inr (.inl ⟨rfl,by omega,by omega,by omega,by omega⟩)))))) (by omega) ?_
  ·rw[bU (by rw[(ht 0).2];exact hl) (by omega) (by omega),(ht k).1]
   by_cases k1:k=1
   ·subst k1;simp;omega
   by_cases k2:k=2
   ·subst k2;simp
   by_cases k3:k=3
   ·subst k3;simp
   by_cases k4:k=4
   ·subst k4;simp
   by_cases k5:k=5
   ·subst k5;simp
   simp[k1,k2,k3,k4,k5]
  ·rw[e5l];show l5 S.nb (M.get 2) (M.get 3+1)<_;unfold l5;omega
 ·next hj =>
  have ej:M.get 3=S.nb:=by omega
  have hh:Hi S.players M (if movP S (M.get 2) then cU (g.step M) M else M):=by
   split
   ·next hm=>exact E6 (by omega) hg M (pw (by omega) hc.1)
   ·exact .refl
  generalize (if movP S (M.get 2) then cU (g.step M) M else M)=N at *;have SB:48 <= N.cs.length:=by rw[hh.len];exact hl
  have e1:=hh.get 1 (by omega);have e4:=hh.get 4 (by omega);have e8:=hh.get 8 (by omega);unfold fD;show Nx S ins M ⟨if bd (M.get 2+1)<g.S.nb then ((N.set 2 (bd (M.get 2+1))).set 3 0).set 5 1024 else (aM (g.step M) 6 0 N).set 5 0,0,bB,false⟩;rw[dh (by omega),hg];split
  ·refine iy hS h (by omega) (hh.kp (by omega)) (by simp only[aP]) (p:=5) (i:=M.get 2+1) (j:=0) (q:=N.get 4) (x:=1024) (λ k=>?_) e8 (hh.ef (by omega)) (.inr (.inr (.inr (.inr (.inr (.inl ⟨rfl,by omega,by omega,by omega,by omega⟩)))))) (by omega) ?_
   ·rw[bU (by simp only[aP];exact SB) (by omega) (by omega),bU (by simp only[aP];exact SB) (by omega) (by omega),bU SB (by omega) (by omega)]
    by_cases k1:k=1
    ·subst k1;simp;omega
    by_cases k2:k=2
    ·subst k2;simp
    by_cases k3:k=3
    ·subst k3;simp
    by_cases k4:k=4
    ·subst k4;simp
    by_cases k5:k=5
    ·subst k5;simp
    simp[k1,k2,k3,k4,k5]
   ·rw[e5l,ej];show l5 S.nb (M.get 2+1) 0<_;unfold l5;generalize M.get 2=i at *;obtain h|h|h|h|h:(S.nb:Int)=1 \/ (S.nb:Int)=2 \/ (S.nb:Int)=3 \/ (S.nb:Int)=4 \/ (S.nb:Int)=5:=by omega
    all_goals rw[h];omega
  ·refine iy hS h (by omega) (hh.kp (by omega)) ((aP _ _ _).trans (ge _ _ _)) (p:=6) (i:=0) (j:=0) (q:=N.get 4) (x:=0) (λ k=>?_) e8 (hh.ef (by omega)) (.inr (.inr (.inr (.inr (.inr (.inr (.inl ⟨rfl,by omega,by omega,.inl rfl⟩))))))) (by omega) ?_
   ·rw[bU (by rw[ge];exact SB) (by omega) (by omega),kg SB]
    by_cases k1:k=1
    ·subst k1;simp
    by_cases k2:k=2
    ·subst k2;simp
    by_cases k3:k=3
    ·subst k3;simp
    by_cases k4:k=4
    ·subst k4;simp
    by_cases k5:k=5
    ·subst k5;simp
    simp[k1,k2,k3,k4,k5]
   ·rw[e5l,ej];show l6 S.nb 0 0 _<_;unfold l5 l6;generalize M.get 2=i at *;obtain h|h|h|h|h:(S.nb:Int)=1 \/ (S.nb:Int)=2 \/ (S.nb:Int)=3 \/ (S.nb:Int)=4 \/ (S.nb:Int)=5:=by omega
    all_goals rw[h];simp;omega
theorem yT{P:Int}{M:MemS}{e fu a b:Int}(hl:48 <= M.cs.length)(he:¬ e<0):Kp P M (aN e fu a b M) /\ (aN e fu a b M).get 8=fu /\ (aN e fu a b M).get 11=M.get 11:=by
 unfold aN;rw[if_neg he];refine⟨(((((Kp.refl).set (by omega) _).set (by omega) _).set (by omega) _).set (by omega) _).set (by omega) _,?_,?_⟩
 ·rw[bC (by decide),bC (by decide),jE (by simp only[aP];omega)]
 ·rw[bC (by decide),bC (by decide),bC (by decide),bC (by decide),bC (by decide)]
theorem CU{S:Setup}(hS:SetV S){g:Gm}(hg:g.S=S){ins:Nat -> Inp}{M:MemS}(h:TV S ins M){p:Int}(hp:M.get 1=p)(hp1:1 <= p)(e a o:Int)(c:Bool)(hi:0 <= M.get 2 /\ M.get 2 <= 5)(hj:M.get 3=0 \/ (M.get 3=1 /\ 0 <= M.get 8 /\ M.get 8 <= 60))
  (hc0:∀fu,Pc S.players S.nb S.rounds p (M.get 2+1) 0 (M.get 4) fu) (hc1:∀fu,0 <= fu -> fu <= 60 -> Pc S.players S.nb S.rounds p (M.get 2) 1 (M.get 4) fu)
  (l0:∀f f',FK S.players S.nb S.rounds p (M.get 2+1) 0 (M.get 4) f<FK S.players S.nb S.rounds p (M.get 2) 0 (M.get 4) f') (l1:∀f fu,fu <= 60 -> FK S.players S.nb S.rounds p (M.get 2) 1 (M.get 4) fu<FK S.players S.nb S.rounds p (M.get 2) 0 (M.get 4) f)
  (l2:∀f f',0 <= f' -> FK S.players S.nb S.rounds p (M.get 2+1) 0 (M.get 4) f<FK S.players S.nb S.rounds p (M.get 2) 1 (M.get 4) f') (l3:∀f,FK S.players S.nb S.rounds p (M.get 2) 1 (M.get 4) (f-1)<FK S.players S.nb S.rounds p (M.get 2) 1 (M.get 4) f) :
  Nx S ins M (dw (eK e (g.step M) a o M) (dE e (g.step M) a o M) (g.step M) c M).z:=by
 have hl:=h.l48 hS;have hpl:=hS.pl;have ZP:0 <= M.get 11 /\ M.get 11 <= 40:=by
  rcases h.ec with e|e
  ·have:=e.1;omega
  ·exact e
 have skip:M.get 3=0 -> Nx S ins M ⟨M.set 2 (bd (M.get 2+1)),0,bB,false⟩:=λ Tk=>by
  rw[dh (by omega)];refine iy hS h (by omega) ((Hi.refl (P:=S.players)).kp (by omega)) (aP _ _ _) (p:=M.get 1) (i:=M.get 2+1) (j:=M.get 3) (q:=M.get 4) (x:=M.get 5) (fu:=M.get 8) (λ k=>R9 (f:=M.get) (bU hl (by omega) (by omega) k).symm) rfl ((Hi.refl (P:=S.players)).ef (by omega)) ?_ (by omega) ?_
  ·rw[hp,Tk];exact hc0 _
  ·unfold nA;rw[hp,Tk];exact l0 _ _
 unfold dw eK dE;show Nx S ins M (VR.z (if M.get 3=0 then _ else _))
 by_cases Tk:M.get 3=0
 ·rw[if_pos Tk];cases c with
  | false=>exact skip Tk
  | true =>
   rw[if_pos rfl]
   by_cases he:e<0
   ·show Nx S ins M (VR.z (if (if M.get 3=0 then decide (e<0) else _)=true then _ else _));rw[if_pos Tk,if_pos (by simpa using he)];show Nx S ins M ⟨(if M.get 3=0 then (if e<0 then (⟨aN e _ a o M,0,_,_⟩:VR) else _) else _).M.set 2 _,0,(if M.get 3=0 then (if e<0 then (⟨aN e _ a o M,0,_,_⟩:VR) else _) else _).e,(if M.get 3=0 then (if e<0 then (⟨aN e _ a o M,0,_,_⟩:VR) else _) else _).em⟩;rw[if_pos Tk,if_pos he];show Nx S ins M ⟨(aN e _ a o M).set 2 _,0,bB,false⟩;rw[show aN e g.S.fuel a o M=M by unfold aN;rw[if_pos he]];exact skip Tk
   ·show Nx S ins M (VR.z (if (if M.get 3=0 then decide (e<0) else _)=true then _ else _));rw[if_pos Tk,if_neg (by simpa using he)];show Nx S ins M ⟨(if M.get 3=0 then (if e<0 then _ else (⟨(aN e g.S.fuel a o M).set 3 1,0,bB,false⟩:VR)) else _).M,0,(if M.get 3=0 then (if e<0 then _ else (⟨(aN e g.S.fuel a o M).set 3 1,0,bB,false⟩:VR)) else _).e,(if M.get 3=0 then (if e<0 then _ else (⟨(aN e g.S.fuel a o M).set 3 1,0,bB,false⟩:VR)) else _).em⟩;rw[if_pos Tk,if_neg he,hg];obtain⟨s1,s2,s3⟩:=yT (P:=S.players) (M:=M) (fu:=S.fuel) (a:=a) (b:=o) hl he;generalize aN e S.fuel a o M=N at *;have SB:48 <= N.cs.length:=by rw[s1.len];exact hl
    refine iy hS h (by omega) s1 (aP _ _ _) (p:=p) (i:=M.get 2) (j:=1) (q:=M.get 4) (x:=M.get 5) (fu:=S.fuel) (λ k=>?_) s2 ⟨λ h=>by simp at h,λ _=>s3⟩ ?_ (by omega) ?_
    ·rw[bU SB (by omega) (by omega)];have n1:=s1.get 1 (by omega);have n2:=s1.get 2 (by omega);have n4:=s1.get 4 (by omega);have n5:=s1.get 5 (by omega)
     by_cases k1:k=1
     ·subst k1;simp;omega
     by_cases k2:k=2
     ·subst k2;simp;omega
     by_cases k3:k=3
     ·subst k3;simp
     by_cases k4:k=4
     ·subst k4;simp;omega
     by_cases k5:k=5
     ·subst k5;simp;omega
     simp[k1,k2,k3,k4,k5]
    ·exact hc1 S.fuel hS.fu.1 hS.fu.2
    ·unfold nA;rw[hp,Tk];exact l1 _ _ hS.fu.2
 ·rw[if_neg Tk];obtain⟨Vp,hf⟩:M.get 3=1 /\ (0 <= M.get 8 /\ M.get 8 <= 60):=by omega
  obtain⟨s1,s2,s3⟩:=yR hS (M:=M) (code:=g.code) (n:=g.cn) hl ZP hf;show Nx S ins M (VR.z (if (if M.get 3=0 then _ else bz g.code g.cn M)=true then _ else _));rw[if_neg Tk];show Nx S ins M (VR.z (if bz g.code g.cn M=true then ⟨((if M.get 3=0 then _ else (⟨(ak g.S g.code g.cn M).M,0,(ak g.S g.code g.cn M).e,(ak g.S g.code g.cn M).em⟩:VR)).M.set 3 0).set 2 _,0,(if M.get 3=0 then _ else (⟨(ak g.S g.code g.cn M).M,0,(ak g.S g.code g.cn M).e,(ak g.S g.code g.cn M).em⟩:VR)).e,(if M.get 3=0 then _ else (⟨(ak g.S g.code g.cn M).M,0,(ak g.S g.code g.cn M).e,(ak g.S g.code g.cn M).em⟩:VR)).em⟩ else ⟨(if M.get 3=0 then _ else (⟨(ak g.S g.code g.cn M).M,0,(ak g.S g.code g.cn M).e,(ak g.S g.code g.cn M).em⟩:VR)).M,0,(if M.get 3=0 then _ else (⟨(ak g.S g.code g.cn M).M,0,(ak g.S g.code g.cn M).e,(ak g.S g.code g.cn M).em⟩:VR)).e,(if M.get 3=0 then _ else (⟨(ak g.S g.code g.cn M).M,0,(ak g.S g.code g.cn M).e,(ak g.S g.code g.cn M).em⟩:VR)).em⟩));rw[if_neg Tk,hg];generalize ak S g.code g.cn M=r at *;have SB:48 <= r.M.cs.length:=by rw[s1.len];exact hl
  have n1:=s1.get 1 (by omega);have n2:=s1.get 2 (by omega);have n3:=s1.get 3 (by omega);have n4:=s1.get 4 (by omega);have n5:=s1.get 5 (by omega)
  by_cases he:bz g.code g.cn M=true
  ·rw[if_pos he];show Nx S ins M ⟨(r.M.set 3 0).set 2 (bd (M.get 2+1)),0,r.e,r.em⟩;rw[dh (by omega)];refine iy hS h (by omega) s1 (by simp only[aP]) (p:=p) (i:=M.get 2+1) (j:=0) (q:=M.get 4) (x:=M.get 5) (fu:=r.M.get 8) (λ k=>?_) rfl ⟨s2.yes,s2.no⟩ (hc0 _) (by omega) ?_
   ·rw[bU (by simp only[aP];exact SB) (by omega) (by omega),bU SB (by omega) (by omega)]
    by_cases k1:k=1
    ·subst k1;simp;omega
    by_cases k2:k=2
    ·subst k2;simp
    by_cases k3:k=3
    ·subst k3;simp
    by_cases k4:k=4
    ·subst k4;simp;omega
    by_cases k5:k=5
    ·subst k5;simp;omega
    simp[k1,k2,k3,k4,k5]
   ·unfold nA;rw[hp,Vp];exact l2 _ _ hf.1
  ·rw[if_neg he];show Nx S ins M ⟨r.M,0,r.e,r.em⟩;rcases s3 with ⟨s4,s5,s6⟩|⟨s4,s5,s6⟩
   ·refine iy hS h (by omega) s1 rfl (p:=p) (i:=M.get 2) (j:=1) (q:=M.get 4) (x:=M.get 5) (fu:=M.get 8-1) (λ k=>?_) s5 ⟨s2.yes,s2.no⟩ (hc1 _ (by omega) (by omega)) (by omega) ?_
    ·show r.M.get k=_
     by_cases k1:k=1
     ·subst k1;simp;omega
     by_cases k2:k=2
     ·subst k2;simp;omega
     by_cases k3:k=3
     ·subst k3;simp;omega
     by_cases k4:k=4
     ·subst k4;simp;omega
     by_cases k5:k=5
     ·subst k5;simp;omega
     simp[k1,k2,k3,k4,k5]
    ·unfold nA;rw[hp,Vp];exact l3 _
   ·exact absurd s5 he
end Go.Proofs.YtdppjkjbghbnjaaGreatDoor
