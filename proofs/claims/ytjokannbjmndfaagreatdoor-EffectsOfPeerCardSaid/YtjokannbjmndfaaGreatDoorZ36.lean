import Derived.Test.YtjokannbjmndfaaGreatDoorZ22
import Derived.Test.YtjokannbjmndfaaGreatDoorZ19
import Derived.Test.YtjokannbjmndfaaGreatDoorZ31
import Derived.Test.YtjokannbjmndfaaGreatDoorZ35
import Derived.Test.YtjokannbjmndfaaGreatDoorZ17
set_option linter.all false
set_option maxHeartbeats 4000000
set_option maxRecDepth 100000
namespace Go.Proofs.YtjokannbjmndfaaGreatDoor
open Go.RowKit
variable {A:Option Addr} {F F' H:HL} {M N:MemS} {P a b fu i j k n p sp u:Int} {R:Value->HL->Prop} {S:Setup} {args:Array Value} {ins:Nat->Inp} {xs:List Int} (t:Stp)
theorem Kq(h:pv n):0<=rO n/\rO n<1000:=dH h 1000 (by decide)
theorem wT{m:Int}(h0:0<=n)(h1:n<m):aq n m=n:=by
 unfold aq;rw[if_neg (by omega)];exact Int.tmod_eq_of_lt h0 h1
theorem Cj(h:pv n):cE (rO n)=cE n:=by
 have hb:=Kq h;have e:rO (rO n)=rO n:=wT hb.1 hb.2;unfold cE pq;rw[e]
theorem F9:∀k:Fin 1000,lD ⟨(cE ((k.1:Nat):Int)).1,(cE ((k.1:Nat):Int)).2,none,0⟩:=by decide+kernel
theorem Kr(h:pv n)(A:Option Addr)(c:Nat):lD ⟨(cE n).1,(cE n).2,A,c⟩:=by
 have hb:=Kq h;have:=F9 ⟨(rO n).toNat,by omega⟩;simp only at this;rw[afp hb.1,Cj h] at this;exact this
theorem P6(i:Nat):0<=([1024,1024,512,2048,0]:List Int).getD i 0/\([1024,1024,512,2048,0]:List Int).getD i 0<=4096:=by
 rcases i with _|_|_|_|_|i
 all_goals first|decide|simp
section
variable {xs:List Int} {F:HL} {A:Option Addr} {n:Nat} {S:Setup} {T:HL}
theorem Nc(hl:ArgL F A n xs)(k:Nat)(B:Option Addr)(c:Nat):fX (uC xs k B c) ⟨-12000,-9000,12000,9000⟩:=by
 have h1:=iu hl (4+2*k);have h2:=iu hl (5+2*k);have h3:=P6 ((bM xs k/5000)%5).toNat
 simp only[fX,uC,uE,yG,and_true];rw[show kv xs (4+2*k)=bN xs k from rfl] at h1;rw[show kv xs (5+2*k)=bM xs k from rfl] at h2;refine⟨h3,⟨⟨?_,?_⟩,?_,?_⟩,⟨?_,?_⟩,⟨?_,?_⟩,⟨?_,?_⟩,?_,?_⟩ <;> omega
theorem Ks(i:Nat):(jR i:Int)<=16/\∀k,k<jR i->r8 3 ((lh i).getD k ng.dflt):=by
 rcases i with _|_|i
 ·exact⟨by decide,λ k hk=>absurd hk (ot _)⟩
 ·exact⟨by decide,by decide⟩
 ·exact⟨by show ((2:Nat):Int)<=16;decide,by show ∀k,k<2->r8 3 (([⟨0,2⟩,⟨1,2⟩]:List Dr).getD k ng.dflt);decide⟩
theorem Ga(hl:ArgL F A n xs)(h:SetG xs S T):oq S tG (lh (kv xs 3%3).toNat)=0:=by
 have h1:=qV hl;have h2:=wp hl;have hn:=h.nb;have k0:=iu hl 0;have k1:=iu hl 1;have k2:=iu hl 2;obtain⟨e1,e2,e3,e4,e5,e6,e7,e8⟩:=h.nums;obtain⟨⟨m1,m2⟩,-⟩:=h.maps;have hd:=Ks (kv xs 3%3).toNat
 unfold oq;rw[if_pos,if_pos,if_pos]
 ·intro k hk;obtain⟨B,c,hb⟩:=h.bod k hk;rw[hb,e1];exact Nc hl k B c
 ·refine⟨?_,?_,⟨?_,?_⟩,?_,?_⟩
  ·have hpl:=h.pl;simp only[jS,uE,yG,and_true,e2,e3,e4,e5,e6,e7,e8,hpl];refine⟨⟨?_,?_⟩,⟨?_,?_⟩,⟨?_,?_⟩,⟨⟨?_,?_⟩,?_,?_⟩,⟨?_,?_⟩,⟨⟨?_,?_⟩,?_,?_⟩,⟨?_,?_⟩,?_,?_⟩ <;> omega
  ·rw[e1];decide
  ·rw[m1];decide
  ·rw[m2];exact hd.1
  ·rw[m1];decide
  ·rw[m1,m2];exact hd.2
 ·intro k hk;obtain⟨B,c,hb⟩:=h.bod k hk;rw[hb];have:=iu hl (4+2*k);exact Kr ⟨by show _<=kv xs (4+2*k);omega,by show kv xs (4+2*k)<=_;omega⟩ B c
end
theorem Sp.den{P:Program}{f:FuncId}(h:Sp P f args H F R)(e:d5 F=d5 F'):Sp P f args H F' R:=by
 have e2:∀X:HL,d5 (X++F)=d5 (X++F'):=λ X=>by simp only[d5,acl] at e ⊢;rw[e]
 intro w hR;refine(h w (hR.den (e2 H).symm)).mono ?_;rintro e' w' ⟨v,H',h1,h2,h3,h4⟩;exact⟨v,H',h1,h2,h3.den (e2 H'),h4⟩
def ArgD(F:HL)(A:Option Addr)(n:Nat)(xs:List Int):Prop:=∃F',d5 F'=d5 F/\ArgL F' A n xs
theorem ArgL.d{n:Nat}(h:ArgL F A n xs)(e:d5 F=d5 F'):ArgD F' A n xs:=⟨F,e,h⟩
theorem ArgD.up{X:HL}{n:Nat}(h:ArgD F A n xs):ArgD (X++F) A n xs:=by
 obtain⟨F',e,h⟩:=h;exact⟨X++F',by simp only[d5,acl] at e ⊢;rw[e],h.up⟩
theorem ArgD.ex{n:Nat}(h:ArgD F A n xs):∃F',ArgL F' A n xs:=by
 obtain⟨F',e,h⟩:=h;exact⟨F',h⟩
theorem ArgD.use{n:Nat}(h:ArgD F A n xs){P:Program}{f:FuncId}(k:∀F',ArgL F' A n xs->Sp P f args H F' R):Sp P f args H F R:=by
 obtain⟨F',e,h⟩:=h;exact(k F' h).den e

noncomputable section
end
structure GF(xs:List Int)(S:Setup):Prop where
 pl:1<=S.players/\S.players<=3
 nb:1<=S.nb/\S.nb<=5
 rn:S.rn=3
 dn:S.dn<=2
 sz:48<=sizeOf S/\sizeOf S<=100
 val:oq S tG (lh (kv xs 3%3).toNat)=0
theorem P7{n:Nat}(hl:ArgD F A n xs){T:HL}(h:SetG xs S T):GF xs S:=by
 obtain⟨F',hl⟩:=hl.ex;have h1:=qV hl;have h2:=wp hl;have hn:=h.nb;have hp:=h.pl;obtain⟨⟨m1,m2⟩,-⟩:=h.maps;have hd:jR (kv xs 3%3).toNat<=2:=by
  generalize (kv xs 3%3).toNat=i;rcases i with _|_|i
  ·exact aaJ _
  ·exact aaH rfl
  ·exact aaI 2
 exact⟨by omega,by omega,m1,by omega,by unfold sizeOf;omega,Ga hl h⟩
structure SetV(S:Setup):Prop where
 pl:1<=S.players/\S.players<=3
 nb:1<=S.nb/\S.nb<=5
 ro:1<=S.rounds/\S.rounds<=3
 fu:0<=S.fuel/\S.fuel<=60
theorem aM{v:Int}:(M.set i v).cs.length=M.cs.length:=by
 unfold MemS.set;split <;> simp
theorem bA{v:Int}(h:j≠i):(M.set i v).get j=M.get j:=by
 unfold MemS.set;split
 ·next hi=>
  unfold MemS.get;simp only[ack];split
  ·next hj=>
   rw[aaG,aaG,List.getElem?_set_ne (by omega)]
  ·rfl
 ·rfl
theorem jA{v:Int}(h:0<=i/\i<M.cs.length):(M.set i v).get i=v:=by
 unfold MemS.set;rw[if_pos h];unfold MemS.get;simp only[ack];rw[if_pos h,aaG,List.getElem?_set_self (by omega)];rfl
theorem bL{v:Int}(h:48<=M.cs.length)(h0:0<=i)(h1:i<48)(j:Int):(M.set i v).get j=if j=i then v else M.get j:=by
 by_cases e:j=i
 ·rw[if_pos e,e,jA (by omega)]
 ·rw[if_neg e,bA e]
theorem oK(hp:0<=S.players)(k:Int):ag S k=-1\/(0<=k/\k<S.nb/\ag S k=48+4*S.players+8*k):=by
 unfold ag;split
 ·exact .inl rfl
 ·split
  ·exact .inl rfl
  ·exact .inr ⟨by omega,by omega,rfl⟩
theorem vt(k:Int):(ai S k=-1/\(k<0\/S.players<=k))\/(0<=k/\k<S.players/\ai S k=48+4*k):=by
 unfold ai;split
 ·exact .inl ⟨rfl,by omega⟩
 ·split
  ·exact .inl ⟨rfl,by omega⟩
  ·exact .inr ⟨by omega,by omega,rfl⟩
structure Hi(P:Int)(M M':MemS):Prop where
 len:M'.cs.length=M.cs.length
 get:∀j,j<48+4*P->M'.get j=M.get j
theorem Hi.refl:Hi P M M:=⟨rfl,λ _ _=>rfl⟩
theorem Hi.set{A:MemS}(h:Hi P A M)(hk:48+4*P<=k)(v:Int):Hi P A (M.set k v):=⟨(aM).trans h.len,λ j hj=>(bA (by omega)).trans (h.get j hj)⟩
theorem Hi.setB(hp:0<=S.players){A:MemS}(h:Hi S.players A M){c:Int}(hb:ag S k>=0)(hc:0<=c)(v:Int):Hi S.players A (M.set (ag S k+c) v):=by
 rcases oK hp k with e|⟨h0,h1,e⟩
 ·omega
 ·exact h.set (by omega) v
structure Kp(P:Int)(M M':MemS):Prop where
 len:M'.cs.length=M.cs.length
 get:∀j,j<=5\/(48<=j/\j<48+4*P)->M'.get j=M.get j
theorem Kp.refl:Kp P M M:=⟨rfl,λ _ _=>rfl⟩
theorem Kp.set{A:MemS}(h:Kp P A M)(hk:5<k/\(k<48\/48+4*P<=k))(v:Int):Kp P A (M.set k v):=⟨(aM).trans h.len,λ j hj=>(bA (by omega)).trans (h.get j hj)⟩
theorem Kp.trans{A B C:MemS}(h:Kp P A B)(h':Kp P B C):Kp P A C:=⟨h'.len.trans h.len,λ j hj=>(h'.get j hj).trans (h.get j hj)⟩
structure Ef(M:MemS)(r:VR):Prop where
 yes:r.em=true->r.e.t=M.get 0/\r.e.i=M.get 11/\M.get 11<40/\r.M.get 11=M.get 11+1
 no:r.em=false->r.M.get 11=M.get 11
theorem TO{op:Int}(h:1<=op/\op<=21):(0<=eP op/\eP op<=2)/\(0<=eQ op/\eQ op<=1):=by
 obtain⟨n,rfl⟩:=Int.eq_ofNat_of_zero_le (show 0<=op by omega);have hn:n<22:=by omega
 have key:∀n:Fin 22,(0<=(oc.getD n.1 (0,0,0)).1/\(oc.getD n.1 (0,0,0)).1<=2)/\(0<=(oc.getD n.1 (0,0,0)).2.1/\(oc.getD n.1 (0,0,0)).2.1<=1):=by decide
 exact key ⟨n,hn⟩
theorem Ku{op:Int}(h:eY op n sp=true):(1<=op/\op<=21)/\sp<=16/\eP op<=sp/\¬ aV (aV (sp-eP op)+eQ op)>16/\(eN op=0\/(0<=n/\n<eN op)):=by
 unfold eY at h;split at h
 ·cases h
 split at h
 ·cases h
 split at h
 ·cases h
 split at h
 ·cases h
 split at h
 ·cases h
 refine⟨by omega,by omega,by omega,by assumption,?_⟩;split at h
 ·left;assumption
 ·split at h
  ·right;exact⟨by omega,abh h⟩
  ·cases h
theorem Nd{v:Int}(hl:48<=M.cs.length)(h0:0<=M.get 11/\M.get 11<=40):Kp P M (cy k v M).M/\(cy k v M).M.get 8=M.get 8/\Ef M (cy k v M):=by
 unfold cy;split
 ·exact⟨.refl,rfl,⟨λ h=>by simp at h,λ _=>rfl⟩⟩
 ·refine⟨((Kp.refl).set (by omega) _).set (by omega) _,?_,⟨λ _=>⟨rfl,rfl,by omega,?_⟩,λ h=>by simp at h⟩⟩
  ·simp only;rw[bA (by decide),bA (by decide)]
  ·simp only;rw[jA (by rw[aM];omega),cP (by omega)]
def Gd(P:Int)(M:MemS)(r:VR):Prop:=Kp P M r.M/\r.M.get 8=M.get 8/\Ef M r
theorem nE{c:Prop}[Decidable c]{x y:VR}(hx:c->Gd P M x)(hy:¬ c->Gd P M y):Gd P M (if c then x else y):=by
 split
 ·exact hx (by assumption)
 ·exact hy (by assumption)
theorem Gd.base{v:Int}:Gd P M ⟨M,v,bx,false⟩:=⟨.refl,rfl,⟨λ h=>by simp at h,λ _=>rfl⟩⟩
theorem Gd.st{v:Int}(hk:(5<k/\k≠8/\k≠11)/\(k<48\/48+4*P<=k)):Gd P M ⟨M.set k v,u,bx,false⟩ :=
 ⟨(Kp.refl).set (by omega) _,bA (by omega),⟨λ h=>by simp at h,λ _=>bA (by omega)⟩⟩
theorem Gd.mite{X Y:MemS}{c:Prop}[Decidable c](hx:c->Gd P M ⟨X,u,bx,false⟩)(hy:¬ c->Gd P M ⟨Y,u,bx,false⟩):Gd P M ⟨if c then X else Y,u,bx,false⟩:=by
 split
 ·exact hx (by assumption)
 ·exact hy (by assumption)
theorem Nf(hS:SetV S){op:Int}(hl:48<=M.cs.length)(h0:0<=M.get 11/\M.get 11<=40)(hn:eN op=0\/(0<=n/\n<eN op)):Gd S.players M (dz S op n a b M):=by
 have hpl:=hS.pl;have ZS:=hS.nb;unfold dz
 iterate 14 (refine nE (λ _=>.base) λ _=>?_)
 refine nE (λ e=>?_) λ _=>?_
 ·subst e;have Wu:0<=n/\n<16:=by
   rcases hn with h|h
   ·exact absurd h (by decide)
   ·exact h
  rw[cP (by omega)];exact .st (by omega)
 refine nE (λ _=>.base) λ _=>nE (λ e=>?_) λ _=>?_
 ·subst e;have h8:0<=n/\n<8:=by
   rcases hn with h|h
   ·exact absurd h (by decide)
   ·exact h
  refine Gd.mite (λ hb=>?_) λ _=>.base;rcases oK (S:=S) (by omega) a with e|⟨b0,b1,e⟩
  ·omega
  ·rw[cP (by omega)];exact .st (by omega)
 refine nE (λ _=>.st (by omega)) λ _=>nE (λ _=>.mite (λ _=>.st (by omega)) λ _=>.base) λ _=>nE (λ _=>?_) λ _=>.base;obtain⟨q1,q2,q3⟩:=Nd (P:=S.players) (k:=a) (v:=b) hl h0;exact⟨q1,q2,⟨q3.yes,q3.no⟩⟩
theorem Ng{op pc fuel:Int}(hl:48<=M.cs.length):Kp P M (mB op sp pc fuel M)/\(mB op sp pc fuel M).get 8=aV (fuel-1)/\(mB op sp pc fuel M).get 11=M.get 11:=by
 unfold mB;split
 ·exact⟨((Kp.refl).set (by omega) _).set (by omega) _,by rw[bA (by decide),jA (by omega)],by rw[bA (by decide),bA (by decide)]⟩
 ·exact⟨(((Kp.refl).set (by omega) _).set (by omega) _).set (by omega) _,by rw[bA (by decide),bA (by decide),jA (by omega)],by rw[bA (by decide),bA (by decide),bA (by decide)]⟩
theorem zO(hS:SetV S){code:List Ins}{n:Nat}(hl:48<=M.cs.length)(h0:0<=M.get 11/\M.get 11<=40)(hf:0<=M.get 8/\M.get 8<=60) :
  Kp S.players M (aj S code n M).M/\Ef M (aj S code n M)/\((gc code n M/\(aj S code n M).M.get 8=M.get 8-1/\1<=M.get 8)\/(¬ gc code n M/\cM code n M=true/\(aj S code n M).M.get 8=M.get 8)):=by
 unfold aj
 by_cases hr:gc code n M
 ·rw[if_pos hr];obtain⟨r1,r2,r3,r4⟩:=hr;obtain⟨x1,x2,x3,x4,x5⟩:=Ku r4;have hp:=Ng (P:=S.players) (op:=(fp code M).op) (sp:=M.get 7) (pc:=M.get 6) (fuel:=M.get 8) hl;generalize hM1:mB (fp code M).op (M.get 7) (M.get 6) (M.get 8) M=M1 at *;obtain⟨p1,p2,p3⟩:=hp;rw[cP (by omega)] at p2;have he:=Nf hS (M:=M1) (op:=(fp code M).op) (n:=(fp code M).n) (a:=pj (fp code M).op (M.get 7) M) (b:=pk (fp code M).op (M.get 7) M) (by rw[p1.len];exact hl) (by rw[p3];exact h0) x5;unfold iq;rw[hM1];generalize dz S (fp code M).op (fp code M).n (pj (fp code M).op (M.get 7) M) (pk (fp code M).op (M.get 7) M) M1=r at *;obtain⟨g1,g2,g3⟩:=he;have hE:Ef M r:=⟨λ h=>by
   obtain⟨a1,a2,a3,a4⟩:=g3.yes h;rw[p1.get 0 (by omega)] at a1;rw[p3] at a2 a3 a4;exact⟨a1,a2,a3,a4⟩,λ h=>by rw[g3.no h,p3]⟩
  have hb:=TO x1;unfold jN;split
  ·have hq:aV (aV (16+M.get 7)-eP (fp code M).op)=16+M.get 7-eP (fp code M).op:=by rw[cP (x:=16+M.get 7) (by omega),cP (by omega)]
   rw[cP (x:=M.get 7-eP (fp code M).op) (by omega),cP (by omega)] at x4;rw[hq];refine⟨(p1.trans g1).set (by omega) _,⟨λ h=>?_,λ h=>?_⟩,.inl ⟨⟨r1,r2,r3,r4⟩,?_,by omega⟩⟩
   ·obtain⟨a1,a2,a3,a4⟩:=hE.yes h;exact⟨a1,a2,a3,(bA (by omega)).trans a4⟩
   ·exact(bA (by omega)).trans (hE.no h)
   ·simp only;rw[bA (by omega),g2,p2]
  ·exact⟨p1.trans g1,hE,.inl ⟨⟨r1,r2,r3,r4⟩,by rw[g2,p2],by omega⟩⟩
 ·rw[if_neg hr];exact⟨.refl,⟨λ h=>by simp at h,λ _=>rfl⟩,.inr ⟨hr,by unfold cM;rw[if_neg hr],rfl⟩⟩
def l6(n i j fu:Int):Int:=(if j=0 then (n-i)*62 else (n-i-1)*62+fu+1)+1+n
def l5(n i j:Int):Int:=n*(n+1)-(i*(n+1)+j)+l6 n 0 0 0
def Oq(n i:Int):Int:=if i=0 then 0 else if i=1 then n-1 else if i=2 then 2*n-3 else 3*n-6
def P8(n:Int):Int:=if n=2 then 1 else if n=3 then 3 else if n=4 then 6 else if n=5 then 10 else 0
def l4(n R i j r:Int):Int:=(if n<2 then 0 else (R-r)*P8 n-(Oq n i+(j-i-1)))+1+l5 n 0 0
def l3(n R i:Int):Int:=n-i+l4 n R 0 1 0
def l2(n R j fu:Int):Int:=(if j=0 then 62 else fu+1)+l3 n R 0
def l1(P n R i j fu:Int):Int:=(if j=0 then (P-i)*62 else (P-i-1)*62+fu+1)+1+l2 n R 0 0
def l0(P n R i:Int):Int:=P-i+l1 P n R 0 0 0
def GP(P n R p i j r fu:Int):Int:=if p=0 then l0 P n R i else if p=1 then l1 P n R i j fu else if p=2 then l2 n R j fu else if p=3 then l3 n R i else if p=4 then l4 n R i j r else if p=5 then l5 n i j else if p=6 then l6 n i j fu else n-i
def QA(P n R p i j r fu:Int):Prop :=
 (p=0/\0<=i/\i<P)\/(p=1/\0<=i/\i<=P/\(j=0\/(j=1/\i<P/\0<=fu/\fu<=60)))\/(p=2/\(j=0\/(j=1/\0<=fu/\fu<=60)))\/(p=3/\0<=i/\i<n)\/
 (p=4/\0<=r/\r<=R/\(2<=n->0<=i/\i<j/\j<n/\(r=R->i=0/\j=1)))\/(p=5/\0<=i/\i<n/\0<=j/\j<=n)\/(p=6/\0<=i/\i<=n/\(j=0\/(j=1/\i<n/\0<=fu/\fu<=60)))\/(p=7/\0<=i/\i<n)
theorem Kv(hn:1<=n/\n<=5)(hi:0<=i/\i<n)(hj:0<=j/\j<=n):0<l5 n i j:=by
 unfold l5 l6;obtain h|h|h|h|h:n=1\/n=2\/n=3\/n=4\/n=5:=by omega
 all_goals subst h;simp;omega
theorem DP{R r:Int}(hP:1<=P/\P<=3)(hn:1<=n/\n<=5)(hR:1<=R/\R<=3)(h:QA P n R p i j r fu):0<GP P n R p i j r fu:=by
 have h5:=Kv hn (i:=0) (j:=0) (by omega) (by omega);have h4:∀i j r,0<=r->r<=R->(2<=n->0<=i/\i<j/\j<n)-> -9<=(if n<2 then 0 else (R-r)*P8 n-(Oq n i+(j-i-1)))->0<l4 n R i j r+9:=λ i j r _ _ _ h=>by unfold l4;omega
 have k4:0<l4 n R 0 1 0:=by
  unfold l4 P8 Oq;obtain h|h|h|h|h:n=1\/n=2\/n=3\/n=4\/n=5:=by omega
  all_goals subst h;simp;omega
 have k3:0<l3 n R 0:=by unfold l3;omega
 have k2:∀j fu,(j=0\/(j=1/\0<=fu/\fu<=60))->0<l2 n R j fu:=λ j fu h=>by unfold l2;split <;> omega
 have k20:=k2 0 0 (.inl rfl);have k1:∀i j fu,0<=i->i<=P->(j=0\/(j=1/\i<P/\0<=fu/\fu<=60))->0<l1 P n R i j fu:=λ i j fu _ _ h=>by unfold l1;split <;> omega
 have k10:=k1 0 0 0 (by omega) (by omega) (.inl rfl);rcases h with h|h|h|h|h|h|h|h <;> obtain⟨rfl,h⟩:=h
 ·show 0<l0 P n R i;unfold l0;omega
 ·exact k1 i j fu h.1 h.2.1 h.2.2
 ·exact k2 j fu h
 ·show 0<l3 n R i;unfold l3;omega
 ·show 0<l4 n R i j r;unfold l4;split
  ·omega
  ·obtain⟨h1,h2,h3⟩:=h;obtain⟨h3,h4',h5',-⟩:=h3 (by omega);have:30<l5 n 0 0:=by
    unfold l5 l6;obtain h|h|h|h|h:n=1\/n=2\/n=3\/n=4\/n=5:=by omega
    all_goals first|omega|(subst h;simp)
   have h6:Oq n i<=9:=by unfold Oq;(repeat' split) <;> omega
   have h7:0<=(R-r)*P8 n:=Int.mul_nonneg (by omega) (by unfold P8;(repeat' split) <;> omega);omega
 ·exact Kv hn ⟨h.1,h.2.1⟩ h.2.2
 ·show 0<l6 n i j fu;unfold l6;split <;> omega
 ·show 0<n-i;omega
abbrev GQ(M:MemS):Prop:=M.get 1=0/\M.get 2=0
structure TV(S:Setup)(ins:Nat->Inp)(M:MemS):Prop where
 len:(M.cs.length:Int)=sizeOf S
 t0:0<=M.get 0/\M.get 0<=1000000
 ct:QA S.players S.nb S.rounds (M.get 1) (M.get 2) (M.get 3) (M.get 4) (M.get 8)
 pl:∀q:Nat,(q:Int)<(if M.get 1=0 then M.get 2 else S.players)->M.get (48+4*q)=(ins q).dx/\M.get (48+4*q+1)=(ins q).dy/\M.get (48+4*q+2)=(ins q).act
 ec:GQ M\/(0<=M.get 11/\M.get 11<=40)
abbrev nI(S:Setup)(M:MemS):Int:=GP S.players S.nb S.rounds (M.get 1) (M.get 2) (M.get 3) (M.get 4) (M.get 8)
structure Nx(S:Setup)(ins:Nat->Inp)(M:MemS)(r:VR):Prop where
 tv:TV S ins r.M
 lt:nI S r.M<nI S M
 ph:M.get 1<=r.M.get 1
 t0:r.M.get 0=M.get 0
 ns:¬ GQ r.M
 yes:r.em=true->¬ GQ M/\r.e.t=M.get 0/\r.e.i=M.get 11/\r.M.get 11=M.get 11+1
 no:r.em=false->r.M.get 11=if GQ M then 0 else M.get 11
 up:r.M.get 1<=M.get 1+1
theorem TV.l48(hS:SetV S)(h:TV S ins M):48<=M.cs.length:=by
 have:=h.len;have:=hS.pl;unfold sizeOf at *;omega
theorem iy(hS:SetV S){r:VR}{q x:Int}(h:TV S ins M)(hp:1<=M.get 1)(hN:Kp S.players M N)(hlen:r.M.cs.length=N.cs.length)
  (g:∀k,r.M.get k=if k=1 then p else if k=2 then i else if k=3 then j else if k=4 then q else if k=5 then x else N.get k) (h8:N.get 8=fu)
  (hE:Ef M ⟨N,r.v,r.e,r.em⟩) (hc:QA S.players S.nb S.rounds p i j q fu) (hph:M.get 1<=p) (iN:GP S.players S.nb S.rounds p i j q fu<nI S M) (Yn:p<=M.get 1+1:=by omega):Nx S ins M r:=by
 have ha:¬ GQ M:=λ e=>by have:=e.1;omega
 have g0:r.M.get 0=M.get 0:=by rw[g];simp;exact hN.get 0 (by omega)
 have g1:r.M.get 1=p:=by rw[g];simp
 have g2:r.M.get 2=i:=by rw[g];simp
 have g3:r.M.get 3=j:=by rw[g];simp
 have g4:r.M.get 4=q:=by rw[g];simp
 have g8:r.M.get 8=fu:=by rw[g];simp;exact h8
 have g11:r.M.get 11=N.get 11:=by rw[g];simp
 have gp:∀k,48<=k->k<48+4*S.players->r.M.get k=M.get k:=λ k h1 h2=>by
  rw[g,if_neg (by omega),if_neg (by omega),if_neg (by omega),if_neg (by omega),if_neg (by omega)];exact hN.get k (by omega)
 have hec:0<=M.get 11/\M.get 11<=40:=by
  rcases h.ec with e|e
  ·exact absurd e ha
  ·exact e
 refine⟨⟨by rw[hlen,hN.len];exact h.len,by rw[g0];exact h.t0,by rw[g1,g2,g3,g4,g8];exact hc,λ k hk=>?_,.inr ?_⟩,?_,by rw[g1];exact hph,g0,λ e=>by rw[GQ,g1] at e;have:=e.1;omega,λ e=>?_,λ e=>?_,by rw[g1];exact Yn⟩
 ·rw[g1,if_neg (by omega)] at hk;have:=h.pl k (by rw[if_neg (by omega)];exact hk);rw[gp _ (by omega) (by omega),gp _ (by omega) (by omega),gp _ (by omega) (by omega)];exact this
 ·rw[g11];cases he:r.em with
  |true=>obtain⟨a,b,c,d⟩:=hE.yes he;simp only at d;omega
  |false=>have:=hE.no he;simp only at this;omega
 ·unfold nI;rw[g1,g2,g3,g4,g8];exact iN
 ·obtain⟨a,b,c,d⟩:=hE.yes e;exact⟨ha,a,b,by rw[g11];exact d⟩
 ·rw[if_neg ha,g11];exact hE.no e
theorem Hi.kp(h:Hi P M N)(hP:0<=P):Kp P M N:=⟨h.len,λ j hj=>h.get j (by omega)⟩
theorem Hi.ef(h:Hi P M N)(hP:0<=P){v:Int}{e:Eff}:Ef M ⟨N,v,e,false⟩:=⟨λ h=>by simp at h,λ _=>h.get 11 (by omega)⟩
theorem j8(h:48<=M.cs.length)(t:Stp)(a b j:Int):(aZ t a b M).get j=if j=3 then b else if j=2 then 0 else if j=1 then a else M.get j:=by
 unfold aZ;rw[bL (by simp only[aM];exact h) (by omega) (by omega),bL (by simp only[aM];exact h) (by omega) (by omega),bL h (by omega) (by omega)]
theorem f5:(aZ t a b M).cs.length=M.cs.length:=by unfold aZ;simp only[aM]
theorem if5{q x z:Int}{f:Int->Int}(h:(if k=3 then j else if k=2 then i else if k=1 then p else f k)=z)(hq:q=f 4)(hx:x=f 5):z=if k=1 then p else if k=2 then i else if k=3 then j else if k=4 then q else if k=5 then x else f k:=by
 subst h hq hx
 by_cases e1:k=1
 ·subst e1;simp
 by_cases e2:k=2
 ·subst e2;simp
 by_cases e3:k=3
 ·subst e3;simp
 by_cases e4:k=4
 ·subst e4;simp
 by_cases e5:k=5
 ·subst e5;simp
 simp[e1,e2,e3,e4,e5]
theorem TP{z:Int}{f:Int->Int}(h:(if k=2 then i else f k)=z):z=if k=1 then f 1 else if k=2 then i else if k=3 then f 3 else if k=4 then f 4 else if k=5 then f 5 else f k:=by
 subst h
 by_cases e1:k=1
 ·subst e1;simp
 by_cases e2:k=2
 ·subst e2;simp
 by_cases e3:k=3
 ·subst e3;simp
 by_cases e4:k=4
 ·subst e4;simp
 by_cases e5:k=5
 ·subst e5;simp
 simp[e1,e2,e3,e4,e5]
theorem Kw(hS:SetV S){t:Stp}(ht:t.S=S)(M:MemS):Hi S.players M (d7 t (eJ t M)):=by
 have hp:0<=S.players:=by have:=hS.pl;omega
 subst ht;have ha:Hi t.S.players M (eJ t M):=by
  unfold eJ;split
  ·exact(Hi.refl).setB hp (by omega) (by omega) _
  ·exact .refl
 unfold d7;split
 ·next hm=>
  have hb:ag t.S t.i>=0:=by
   rcases oK hp t.i with e|⟨_,_,e⟩
   ·unfold ag at e;rw[if_neg (by have:=hm.1;omega),if_neg (by have:=hm.1;omega)] at e;have:=hm.1;omega
   ·omega
  exact(ha.setB hp hb (by omega) _).setB hp hb (by omega) _
 ·exact ha
theorem q3(hS:SetV S){g:Gm}(hg:g.S=S)(h:TV S ins M)(hp:M.get 1=3):Nx S ins M ⟨dP (g.step M) M,0,bx,false⟩:=by
 have hpl:=hS.pl;have ZS:=hS.nb;have US:=hS.ro;have hc:0<=M.get 2/\M.get 2<S.nb:=by rcases h.ct with h|h|h|h|h|h|h|h <;> omega
 have hh:=Kw hS (t:=g.step M) hg M;have hl:=h.l48 hS;unfold dP fV;generalize d7 (g.step M) (eJ (g.step M) M)=N at *;have UI:48<=N.cs.length:=by rw[hh.len];exact hl
 have e1:=hh.get 1 (by omega);have e2:=hh.get 2 (by omega);have e3:=hh.get 3 (by omega);have e4:=hh.get 4 (by omega);have e8:=hh.get 8 (by omega);show Nx S ins M ⟨if aV (M.get 2+1)<g.S.nb then N.set 2 (aV (M.get 2+1)) else _,0,bx,false⟩;rw[cP (by omega),hg];split
 ·refine iy hS h (by omega) (hh.kp (by omega)) (aM) (λ k=>TP (f:=N.get) (bL UI (by omega) (by omega) k).symm) e8 (hh.ef (by omega)) ?_ (by omega) ?_
  ·rw[e1,e3,e4,hp];exact .inr (.inr (.inr (.inl ⟨rfl,by omega,by omega⟩)))
  ·unfold nI;rw[e1,e3,e4,hp];show l3 S.nb S.rounds (M.get 2+1)<l3 S.nb S.rounds (M.get 2);unfold l3;omega
 ·refine iy hS h (by omega) (hh.kp (by omega)) ((aM).trans (f5 _)) (p:=4) (i:=0) (j:=1) (q:=0) (x:=N.get 5) (λ k=>?_) e8 (hh.ef (by omega)) ?_ (by omega) ?_
  ·rw[bL (by rw[f5];exact UI) (by omega) (by omega),j8 UI]
   by_cases k4:k=4
   ·subst k4;simp
   ·rw[if_neg k4]
    by_cases k1:k=1
    ·subst k1;simp
    by_cases k2:k=2
    ·subst k2;simp
    by_cases k3:k=3
    ·subst k3;simp
    by_cases k5:k=5
    ·subst k5;simp
    simp[k1,k2,k3,k4,k5]
  ·exact .inr (.inr (.inr (.inr (.inl ⟨rfl,by omega,by omega,λ _=>by omega⟩))))
  ·unfold nI;rw[hp];show l4 S.nb S.rounds 0 1 0<l3 S.nb S.rounds (M.get 2);unfold l3;omega
end Go.Proofs.YtjokannbjmndfaaGreatDoor
