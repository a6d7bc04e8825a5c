import Derived.Test.YtjokannbjmndfaaGreatDoorZ12
import Derived.Test.YtjokannbjmndfaaGreatDoorZ09
set_option linter.all false
set_option maxHeartbeats 4000000
set_option maxRecDepth 100000
namespace Go.Proofs.YtjokannbjmndfaaGreatDoor
open IntKind
open Go.RowKit
variable {F T:HL} {M:MemS} {S:Setup} {mb:Nat} (k:Nat) (n:Int) (A:Option Addr) (cc:Nat) (a e0 b e1 e2:Int)
theorem O6(kd v:Int)(hM:MemH mb M (k+2) T) :af1 294 #[.iface 95 (vP mb 0),vI kd,vI v] (ap [] [T]) F (λ u H'=>∃x,H'=ap [] [x]/\(MemH mb ((cy kd v M).M) k x/\u=.tuple #[.agg (aaa (cy kd v M).e).toArray,.bool ((cy kd v M).em)])):=by
 refine QF Tryz.func294 mn<|ae 9 [] λ n1=>aah (aA 11 hM (ar 0))<|OG 10<|aal (M.get 11>=40) 14 (λ h2=>?_) λ h2=>?_
 ·refine Sr 8 (aab 4)<|QI (aab 4) [] [0] (.tuple #[.agg #[vI 0,vI 0,vI 0,vI 0],.bool false]) (ap [] [T]) ⟨T,rfl,?_⟩;refine⟨?_,?_⟩
  ·simp only[cy,if_pos h2];exact hM.weak (by omega)
  ·simp only[cy,if_pos h2]
 ·refine OG 6<|aah (aA 0 hM (ar 0))<|OG 6<|aah (aA 12 hM (ar 0))<|ae 4 [] λ n3=>aaj 0 (.rows 1 4 (aY [M.get 12,M.get 0,kd,v]) 3 (0,0))<|aah (HC (⟨#[101,102,102,101,99,116]⟩) (xs:=[M.get 12,M.get 0,kd,v]) (q:=n3+0) (c:=4) (by decide) (aaH rfl) (aaH rfl) (ay 0))<|OG 9<|aai [] [0] (al 12 (i64.wrap ((OS (⟨#[101,102,102,101,99,116]⟩) ([M.get 12,M.get 0,kd,v])).fdiv 2)) hM) ?_;rintro _ T4 XE;refine OG 7<|aai [] [0] (al 11 (i64.wrap ((M.get 11)+1)) XE) ?_;rintro _ T6 YY;refine Sr 13 (ow 1 4)<|QI (ow 1 4) [] [0] (.tuple #[.agg #[vI (M.get 0),vI (M.get 11),vI kd,vI v],.bool true]) (ap [] [T6]) ⟨T6,rfl,?_⟩;refine⟨?_,?_⟩
  ·simp only[cy,if_neg h2];exact YY.weak (by omega)
  ·simp only[cy,if_neg h2]
theorem S6(hM:MemH mb M (k+1) T)(hS:SetN S):af1 287 #[.iface 95 (vP mb 0),(Setup.v S),.agg #[vI n,vI a,vI b]] (ap [] [T]) F (λ u H'=>∃x,H'=ap [] [x]/\(MemH mb (M.set (aV (32+n)) a) k x/\u=.tuple #[vI 0,.agg #[vI 0,vI 0,vI 0,vI 0],.bool false])):=by
 have h1:=hS.pl;have h2:=hS.nb;refine QF Tryz.func287 mn<|ae 17 [.o 1,.o 1] λ n1=>aai [] [0] (al (i64.wrap (32+n)) a hM) ?_;rintro _ T2 Wm;refine Sr 10 (aab 4)<|QI (aab 4) [] [0] (.tuple #[vI 0,.agg #[vI 0,vI 0,vI 0,vI 0],.bool false]) (ap [] [T2]) ⟨T2,rfl,?_⟩;refine⟨?_,?_⟩
 ·first|(simp only[];exact Wm.weak (by omega))|exact Wm.weak (by omega)
 ·first|rfl|(simp only[];done)|(simp only[];rfl)
theorem S7(hM:MemH mb M (k+0) T)(hS:SetN S):af1 288 #[.iface 95 (vP mb 0),(Setup.v S),.agg #[vI n,vI a,vI b]] (ap [] [T]) F (λ u H'=>∃x,H'=ap [] [x]/\(MemH mb (M) k x/\u=.tuple #[vI (if ag S a>=0 then M.get (aV (ag S a+n)) else 0),.agg #[vI 0,vI 0,vI 0,vI 0],.bool false])):=by
 have h1:=hS.pl;have h2:=hS.nb;refine QF Tryz.func288 mn<|ae 15 (ow 2 16++[.o 1]) λ n1=>aah (dh a hS) ?_;have Zt:=dg hS a;refine OG 9<|aal (ag S a>=0) 15 (λ h3=>?_) λ h3=>?_
 ·refine Sr 8 [.o 1]<|aah (aA (i64.wrap ((ag S a)+n)) hM (ar 0))<|Sr 6 (aab 4)<|QI (aab 4) [] [0] (.tuple #[vI (M.get (i64.wrap ((ag S a)+n))),.agg #[vI 0,vI 0,vI 0,vI 0],.bool false]) (ap [] [T]) ⟨T,rfl,?_⟩;refine⟨?_,?_⟩
  ·first|(simp only[if_pos h3];exact hM.weak (by omega))|exact hM.weak (by omega)
  ·first|rfl|(simp only[if_pos h3];done)|(simp only[if_pos h3];rfl)
 ·refine Sr 11 (aab 4)<|QI (aab 4) [] [0] (.tuple #[vI 0,.agg #[vI 0,vI 0,vI 0,vI 0],.bool false]) (ap [] [T]) ⟨T,rfl,?_⟩;refine⟨?_,?_⟩
  ·first|(simp only[if_neg h3];exact hM.weak (by omega))|exact hM.weak (by omega)
  ·first|rfl|(simp only[if_neg h3];done)|(simp only[if_neg h3];rfl)
theorem S8(hM:MemH mb M (k+1) T)(hS:SetN S):af1 289 #[.iface 95 (vP mb 0),(Setup.v S),.agg #[vI n,vI a,vI b]] (ap [] [T]) F (λ u H'=>∃x,H'=ap [] [x]/\(MemH mb (if ag S a>=0 then M.set (aV (ag S a+n)) (od n b) else M) k x/\u=.tuple #[vI 0,.agg #[vI 0,vI 0,vI 0,vI 0],.bool false])):=by
 have h1:=hS.pl;have h2:=hS.nb;refine QF Tryz.func289 mn<|ae 15 (ow 2 16++[.o 1]) λ n1=>aah (dh a hS) ?_;have Zt:=dg hS a;refine OG 9<|aal (ag S a>=0) 15 (λ h3=>?_) λ h3=>?_
 ·refine OG 1<|aak [13] []<|af [] [0,1,2,5,7,3,6,8,10,4,11,12] (ow 1 3)<|aac [] 9 (λ X_=>(EG n b))<|aae 13 (aaf [] [] [0] (al (i64.wrap ((ag S a)+n)) (od n b) hM) ?_);rintro _ T4 XE;refine aad<|Sr 9 (aab 4)<|QI (aab 4) [] [0] (.tuple #[vI 0,.agg #[vI 0,vI 0,vI 0,vI 0],.bool false]) (ap [] [T4]) ⟨T4,rfl,?_⟩;refine⟨?_,?_⟩
  ·first|(simp only[if_pos h3];exact XE.weak (by omega))|exact XE.weak (by omega)
  ·first|rfl|(simp only[if_pos h3];done)|(simp only[if_pos h3];rfl)
 ·refine Sr 11 (aab 4)<|QI (aab 4) [] [0] (.tuple #[vI 0,.agg #[vI 0,vI 0,vI 0,vI 0],.bool false]) (ap [] [T]) ⟨T,rfl,?_⟩;refine⟨?_,?_⟩
  ·first|(simp only[if_neg h3];exact hM.weak (by omega))|exact hM.weak (by omega)
  ·first|rfl|(simp only[if_neg h3];done)|(simp only[if_neg h3];rfl)
theorem Ri(hM:MemH mb M (k+1) T)(hS:SetN S):af1 291 #[.iface 95 (vP mb 0),(Setup.v S),.agg #[vI n,vI a,vI b]] (ap [] [T]) F (λ u H'=>∃x,H'=ap [] [x]/\(MemH mb (M.set 6 n) k x/\u=.tuple #[vI 0,.agg #[vI 0,vI 0,vI 0,vI 0],.bool false])):=by
 have h1:=hS.pl;have h2:=hS.nb;refine QF Tryz.func291 mn<|ae 14 [.o 1] λ n1=>aai [] [0] (al 6 n hM) ?_;rintro _ T2 Wm;refine Sr 10 (aab 4)<|QI (aab 4) [] [0] (.tuple #[vI 0,.agg #[vI 0,vI 0,vI 0,vI 0],.bool false]) (ap [] [T2]) ⟨T2,rfl,?_⟩;refine⟨?_,?_⟩
 ·first|(simp only[];exact Wm.weak (by omega))|exact Wm.weak (by omega)
 ·first|rfl|(simp only[];done)|(simp only[];rfl)
theorem Rj(hM:MemH mb M (k+1) T)(hS:SetN S):af1 292 #[.iface 95 (vP mb 0),(Setup.v S),.agg #[vI n,vI a,vI b]] (ap [] [T]) F (λ u H'=>∃x,H'=ap [] [x]/\(MemH mb (if a=0 then M.set 6 n else M) k x/\u=.tuple #[vI 0,.agg #[vI 0,vI 0,vI 0,vI 0],.bool false])):=by
 have h1:=hS.pl;have h2:=hS.nb;refine QF Tryz.func292 mn<|ae 17 [.o 1] λ n1=>aal (a=0) 11 (λ h2=>?_) λ h2=>?_
 ·refine Sr 5 [.o 1]<|aai [] [0] (al 6 n hM) ?_;rintro _ T3 R_;refine Sr 10 (aab 4)<|QI (aab 4) [] [0] (.tuple #[vI 0,.agg #[vI 0,vI 0,vI 0,vI 0],.bool false]) (ap [] [T3]) ⟨T3,rfl,?_⟩;refine⟨?_,?_⟩
  ·first|(simp only[if_pos h2];exact R_.weak (by omega))|exact R_.weak (by omega)
  ·first|rfl|(simp only[if_pos h2];done)|(simp only[if_pos h2];rfl)
 ·refine Sr 11 (aab 4)<|QI (aab 4) [] [0] (.tuple #[vI 0,.agg #[vI 0,vI 0,vI 0,vI 0],.bool false]) (ap [] [T]) ⟨T,rfl,?_⟩;refine⟨?_,?_⟩
  ·first|(simp only[if_neg h2];exact hM.weak (by omega))|exact hM.weak (by omega)
  ·first|rfl|(simp only[if_neg h2];done)|(simp only[if_neg h2];rfl)
theorem Rk(hM:MemH mb M (k+2) T)(hS:SetN S):af1 293 #[.iface 95 (vP mb 0),(Setup.v S),.agg #[vI n,vI a,vI b]] (ap [] [T]) F (λ u H'=>∃x,H'=ap [] [x]/\(MemH mb ((cy a b M).M) k x/\u=.tuple #[vI 0,.agg (aaa (cy a b M).e).toArray,.bool ((cy a b M).em)])):=by
 have h1:=hS.pl;have h2:=hS.nb;refine QF Tryz.func293 mn<|ae 16 [.o 1,.o 1] λ n1=>aai [] [0] (O6 k a b hM) ?_;rintro _ T2 ⟨Wm,rfl⟩;refine ae 9 (aab 4) λ n4=>aak [3] [0,2,3]<|af [0,2,3] [0,1,2] (aab 4)<|Sx 3 [0,2,3] (ow 1 4)<|af [0,2,3] [4] []<|QQ 1<|QI (ow 1 4) [] [0] (.tuple #[vI 0,.agg (aaa (cy a b M).e).toArray,.bool ((cy a b M).em)]) (ap [] [T2]) ⟨T2,rfl,?_⟩;refine⟨?_,?_⟩
 ·first|(simp only[];exact Wm.weak (by omega))|exact Wm.weak (by omega)
 ·first|rfl|(simp only[];done)|(simp only[];rfl)
theorem Rl(hM:MemH mb M (k+0) T)(hS:SetN S):af1 295 #[.iface 95 (vP mb 0),(Setup.v S),.agg #[vI n,vI a,vI b]] (ap [] [T]) F (λ u H'=>∃x,H'=ap [] [x]/\(MemH mb (M) k x/\u=.tuple #[vI 0,.agg #[vI 0,vI 0,vI 0,vI 0],.bool false])):=by
 have h1:=hS.pl;have h2:=hS.nb;refine QF Tryz.func295 mn<|ae 17 (aab 4) λ n1=>QI (aab 4) [] [0] (.tuple #[vI 0,.agg #[vI 0,vI 0,vI 0,vI 0],.bool false]) (ap [] [T]) ⟨T,rfl,?_⟩;refine⟨?_,?_⟩
 ·first|(simp only[];exact hM.weak (by omega))|exact hM.weak (by omega)
 ·first|rfl|(simp only[];done)|(simp only[];rfl)
theorem HE(op n a b:Int)(hM:MemH mb M (k+2) T)(hS:SetN S)(ho:1<=op/\op<=21):af1 232 #[vI op,.iface 95 (vP mb 0),(Setup.v S),.agg #[vI n,vI a,vI b]] (ap [] [T]) F (λ u H'=>∃x,H'=ap [] [x]/\(MemH mb ((dz S op n a b M).M) k x/\u=.tuple #[vI ((dz S op n a b M).v),.agg (aaa (dz S op n a b M).e).toArray,.bool ((dz S op n a b M).em)])):=by
 refine QF Tryz.func232 mn<|ae 23 [] λ n1=>aal (op=1) 12 (λ h2=>?_) λ h2=>?_
 ·subst h2;refine OG 5<|aak [8] [1,2]<|af [1,2] [0,2,3,6,4] [.o 1]<|aac [1,2] 1 (λ X_=>(Q8))<|aac [1,2] 5 (λ X_=>(ld1 n hM (aL 0)))<|af [1,2] [7] []<|Sx 8 [1,2] (aab 4)<|af [1,2] [9] []<|QQ 1<|QI (aab 4) [] [0] (.tuple #[vI n,.agg #[vI 0,vI 0,vI 0,vI 0],.bool false]) (ap [] [T]) ⟨T,rfl,?_⟩;exact⟨hM.weak (by omega),rfl⟩
 ·refine OG 7<|aal (op=2) 12 (λ h3=>?_) λ h3=>?_
  ·subst h3;refine OG 5<|aak [8] [1,2]<|af [1,2] [0,2,3,6,4] [.o 1]<|aac [1,2] 1 (λ X_=>(Q9))<|aac [1,2] 5 (λ X_=>(ld2 n hM (aL 0)))<|af [1,2] [7] []<|Sx 8 [1,2] (aab 4)<|af [1,2] [9] []<|QQ 1<|QI (aab 4) [] [0] (.tuple #[vI (M.get (aV (32+n))),.agg #[vI 0,vI 0,vI 0,vI 0],.bool false]) (ap [] [T]) ⟨T,rfl,?_⟩;exact⟨hM.weak (by omega),rfl⟩
  ·refine OG 7<|aal (op=6) 12 (λ h4=>?_) λ h4=>?_
   ·subst h4;refine OG 5<|aak [8] [1,2]<|af [1,2] [0,2,3,6,4] [.o 1]<|aac [1,2] 1 (λ X_=>(Ra))<|aac [1,2] 5 (λ X_=>(ld3 n hM (aL 0)))<|af [1,2] [7] []<|Sx 8 [1,2] (aab 4)<|af [1,2] [9] []<|QQ 1<|QI (aab 4) [] [0] (.tuple #[vI (M.get 9),.agg #[vI 0,vI 0,vI 0,vI 0],.bool false]) (ap [] [T]) ⟨T,rfl,?_⟩;exact⟨hM.weak (by omega),rfl⟩
   ·refine OG 7<|aal (op=7) 12 (λ h5=>?_) λ h5=>?_
    ·subst h5;refine OG 5<|aak [8] [1,2]<|af [1,2] [0,2,3,6,4] [.o 1]<|aac [1,2] 1 (λ X_=>(Rb))<|aac [1,2] 5 (λ X_=>(ld4 n hM (aL 0)))<|af [1,2] [7] []<|Sx 8 [1,2] (aab 4)<|af [1,2] [9] []<|QQ 1<|QI (aab 4) [] [0] (.tuple #[vI (M.get 10),.agg #[vI 0,vI 0,vI 0,vI 0],.bool false]) (ap [] [T]) ⟨T,rfl,?_⟩;exact⟨hM.weak (by omega),rfl⟩
    ·refine OG 6<|aal (op=8) 12 (λ h6=>?_) λ h6=>?_
     ·subst h6;refine OG 2<|aak [8] [1,2]<|af [1,2] [0,2,3,6,4] [.o 1]<|aac [1,2] 1 (λ X_=>(Rc))<|aac [1,2] 5 (λ X_=>(ld5 n hM (aL 0)))<|af [1,2] [7] []<|Sx 8 [1,2] (aab 4)<|af [1,2] [9] []<|QQ 1<|QI (aab 4) [] [0] (.tuple #[vI (M.get 0),.agg #[vI 0,vI 0,vI 0,vI 0],.bool false]) (ap [] [T]) ⟨T,rfl,?_⟩;exact⟨hM.weak (by omega),rfl⟩
     ·refine OG 8<|aal (op=9) 25 (λ h7=>?_) λ h7=>?_
      ·subst h7;refine OG 5<|aak [9] [1,2]<|af [1,2] [0,2,4,7,3,5] [.o 1,.o 1]<|aac [1,2] 1 (λ X_=>(Re))<|aac [1,2] 6 (λ X_=>(SW a b))<|af [1,2] [8] []<|Sx 9 [1,2] (aab 4)<|af [1,2] [10] []<|QQ 1<|QI (aab 4) [] [0] (.tuple #[vI (lB (aV (a+b))),.agg #[vI 0,vI 0,vI 0,vI 0],.bool false]) (ap [] [T]) ⟨T,rfl,?_⟩;exact⟨hM.weak (by omega),rfl⟩
      ·refine OG 7<|aal (op=10) 25 (λ h8=>?_) λ h8=>?_
       ·subst h8;refine OG 5<|aak [9] [1,2]<|af [1,2] [0,2,4,7,3,5] [.o 1,.o 1]<|aac [1,2] 1 (λ X_=>(OT))<|aac [1,2] 6 (λ X_=>(SX a b))<|af [1,2] [8] []<|Sx 9 [1,2] (aab 4)<|af [1,2] [10] []<|QQ 1<|QI (aab 4) [] [0] (.tuple #[vI (lB (aV (a-b))),.agg #[vI 0,vI 0,vI 0,vI 0],.bool false]) (ap [] [T]) ⟨T,rfl,?_⟩;exact⟨hM.weak (by omega),rfl⟩
       ·refine OG 7<|aal (op=11) 25 (λ h9=>?_) λ h9=>?_
        ·subst h9;refine OG 5<|aak [9] [1,2]<|af [1,2] [0,2,4,7,3,5] [.o 1,.o 1]<|aac [1,2] 1 (λ X_=>(OU))<|aac [1,2] 6 (λ X_=>(SY a b))<|af [1,2] [8] []<|Sx 9 [1,2] (aab 4)<|af [1,2] [10] []<|QQ 1<|QI (aab 4) [] [0] (.tuple #[vI (lB (aV (a*b))),.agg #[vI 0,vI 0,vI 0,vI 0],.bool false]) (ap [] [T]) ⟨T,rfl,?_⟩;exact⟨hM.weak (by omega),rfl⟩
        ·refine OG 7<|aal (op=12) 25 (λ UE=>?_) λ UE=>?_
         ·subst UE;refine OG 5<|aak [9] [1,2]<|af [1,2] [0,2,4,7,3,5] [.o 1,.o 1]<|aac [1,2] 1 (λ X_=>(OV))<|aac [1,2] 6 (λ X_=>(SZ a b))<|af [1,2] [8] []<|Sx 9 [1,2] (aab 4)<|af [1,2] [10] []<|QQ 1<|QI (aab 4) [] [0] (.tuple #[vI (if b=0 then 0 else lB (aV (a.tdiv b))),.agg #[vI 0,vI 0,vI 0,vI 0],.bool false]) (ap [] [T]) ⟨T,rfl,?_⟩;exact⟨hM.weak (by omega),rfl⟩
         ·refine OG 7<|aal (op=14) 25 (λ Ve=>?_) λ Ve=>?_
          ·subst Ve;refine OG 5<|aak [9] [1,2]<|af [1,2] [0,2,4,7,3,5] [.o 1,.o 1]<|aac [1,2] 1 (λ X_=>(OW))<|aac [1,2] 6 (λ X_=>(S0 a b))<|af [1,2] [8] []<|Sx 9 [1,2] (aab 4)<|af [1,2] [10] []<|QQ 1<|QI (aab 4) [] [0] (.tuple #[vI (gM (decide (a<b))),.agg #[vI 0,vI 0,vI 0,vI 0],.bool false]) (ap [] [T]) ⟨T,rfl,?_⟩;exact⟨hM.weak (by omega),rfl⟩
          ·refine OG 7<|aal (op=15) 25 (λ UO=>?_) λ UO=>?_
           ·subst UO;refine OG 5<|aak [9] [1,2]<|af [1,2] [0,2,4,7,3,5] [.o 1,.o 1]<|aac [1,2] 1 (λ X_=>(OX))<|aac [1,2] 6 (λ X_=>(S4 a b))<|af [1,2] [8] []<|Sx 9 [1,2] (aab 4)<|af [1,2] [10] []<|QQ 1<|QI (aab 4) [] [0] (.tuple #[vI (gM (decide (a<=b))),.agg #[vI 0,vI 0,vI 0,vI 0],.bool false]) (ap [] [T]) ⟨T,rfl,?_⟩;exact⟨hM.weak (by omega),rfl⟩
           ·refine OG 6<|aal (op=16) 25 (λ Zd=>?_) λ Zd=>?_
            ·subst Zd;refine OG 2<|aak [9] [1,2]<|af [1,2] [0,2,4,7,3,5] [.o 1,.o 1]<|aac [1,2] 1 (λ X_=>(OY))<|aac [1,2] 6 (λ X_=>(S5 a b))<|af [1,2] [8] []<|Sx 9 [1,2] (aab 4)<|af [1,2] [10] []<|QQ 1<|QI (aab 4) [] [0] (.tuple #[vI (gM (decide (a=b))),.agg #[vI 0,vI 0,vI 0,vI 0],.bool false]) (ap [] [T]) ⟨T,rfl,?_⟩;exact⟨hM.weak (by omega),rfl⟩
            ·refine OG 8<|aal (op=13) 41 (λ XI=>?_) λ XI=>?_
             ·subst XI;refine OG 5<|aak [7] [1,2]<|af [1,2] [0,2,5,3] [.o 1]<|aac [1,2] 1 (λ X_=>(OZ))<|aac [1,2] 4 (λ X_=>(un1 a))<|af [1,2] [6] []<|Sx 7 [1,2] (aab 4)<|af [1,2] [8] []<|QQ 1<|QI (aab 4) [] [0] (.tuple #[vI (lB (aV (0-a))),.agg #[vI 0,vI 0,vI 0,vI 0],.bool false]) (ap [] [T]) ⟨T,rfl,?_⟩;exact⟨hM.weak (by omega),rfl⟩
             ·refine OG 6<|aal (op=17) 41 (λ h15=>?_) λ h15=>?_
              ·subst h15;refine OG 2<|aak [7] [1,2]<|af [1,2] [0,2,5,3] [.o 1]<|aac [1,2] 1 (λ X_=>(O0))<|aac [1,2] 4 (λ X_=>(un2 a))<|af [1,2] [6] []<|Sx 7 [1,2] (aab 4)<|af [1,2] [8] []<|QQ 1<|QI (aab 4) [] [0] (.tuple #[vI (gM (decide (a=0))),.agg #[vI 0,vI 0,vI 0,vI 0],.bool false]) (ap [] [T]) ⟨T,rfl,?_⟩;exact⟨hM.weak (by omega),rfl⟩
              ·refine ae 5 [] λ _=>?_;have h7:op=3\/op=4\/op=5\/op=18\/op=19\/op=20\/op=21:=by omega
               rcases h7 with rfl|rfl|rfl|rfl|rfl|rfl|rfl
               ·refine aak [5,10] []<|af [] [0,2,3,4] (ow 2 16++(ow 1 3))<|aac [] 1 (λ X_=>(Rf))<|aae 5 (aaf [] [] [0] (S6 (k+1) n a b hM hS) ?_);rintro _ Zx ⟨Xq,rfl⟩;refine afZ [6,7,8,9]<|Sx 10 [] (aab 4)<|afZ [11]<|QQ 1<|QI (aab 4) [] [0] (.tuple #[vI 0,.agg #[vI 0,vI 0,vI 0,vI 0],.bool false]) (ap [] [Zx]) ⟨Zx,rfl,?_⟩;exact⟨Xq.weak (by omega),rfl⟩
               ·refine aak [5,10] []<|af [] [0,2,3,4] (ow 2 16++(ow 1 3))<|aac [] 1 (λ X_=>(Rg))<|aae 5 (aaf [] [] [0] (S7 (k+2) n a b hM hS) ?_);rintro _ T18 ⟨Y0,rfl⟩;refine afZ [6,7,8,9]<|Sx 10 [] (aab 4)<|afZ [11]<|QQ 1<|QI (aab 4) [] [0] (.tuple #[vI (if ag S a>=0 then M.get (aV (ag S a+n)) else 0),.agg #[vI 0,vI 0,vI 0,vI 0],.bool false]) (ap [] [T18]) ⟨T18,rfl,?_⟩;exact⟨Y0.weak (by omega),rfl⟩
               ·refine aak [5,10] []<|af [] [0,2,3,4] (ow 2 16++(ow 1 3))<|aac [] 1 (λ X_=>(Rh))<|aae 5 (aaf [] [] [0] (S8 (k+1) n a b hM hS) ?_);rintro _ Zw ⟨YZ,rfl⟩;refine afZ [6,7,8,9]<|Sx 10 [] (aab 4)<|afZ [11]<|QQ 1<|QI (aab 4) [] [0] (.tuple #[vI 0,.agg #[vI 0,vI 0,vI 0,vI 0],.bool false]) (ap [] [Zw]) ⟨Zw,rfl,?_⟩;exact⟨YZ.weak (by omega),rfl⟩
               ·refine aak [5,10] []<|af [] [0,2,3,4] (ow 2 16++(ow 1 3))<|aac [] 1 (λ X_=>(O2))<|aae 5 (aaf [] [] [0] (Ri (k+1) n a b hM hS) ?_);rintro _ Zi ⟨acu,rfl⟩;refine afZ [6,7,8,9]<|Sx 10 [] (aab 4)<|afZ [11]<|QQ 1<|QI (aab 4) [] [0] (.tuple #[vI 0,.agg #[vI 0,vI 0,vI 0,vI 0],.bool false]) (ap [] [Zi]) ⟨Zi,rfl,?_⟩;exact⟨acu.weak (by omega),rfl⟩
               ·refine aak [5,10] []<|af [] [0,2,3,4] (ow 2 16++(ow 1 3))<|aac [] 1 (λ X_=>(O3))<|aae 5 (aaf [] [] [0] (Rj (k+1) n a b hM hS) ?_);rintro _ T24 ⟨aiU,rfl⟩;refine afZ [6,7,8,9]<|Sx 10 [] (aab 4)<|afZ [11]<|QQ 1<|QI (aab 4) [] [0] (.tuple #[vI 0,.agg #[vI 0,vI 0,vI 0,vI 0],.bool false]) (ap [] [T24]) ⟨T24,rfl,?_⟩;exact⟨aiU.weak (by omega),rfl⟩
               ·refine aak [5,10] []<|af [] [0,2,3,4] (ow 2 16++(ow 1 3))<|aac [] 1 (λ X_=>(O4))<|aae 5 (aaf [] [] [0] (Rk k n a b hM hS) ?_);rintro _ T26 ⟨aiT,rfl⟩;refine afZ [6,7,8,9]<|Sx 10 [] (aab 4)<|afZ [11]<|QQ 1<|QI (aab 4) [] [0] (.tuple #[vI 0,.agg (aaa (cy a b M).e).toArray,.bool ((cy a b M).em)]) (ap [] [T26]) ⟨T26,rfl,?_⟩;exact⟨aiT.weak (by omega),rfl⟩
               ·refine aak [5,10] []<|af [] [0,2,3,4] (ow 2 16++(ow 1 3))<|aac [] 1 (λ X_=>(O5))<|aae 5 (aaf [] [] [0] (Rl (k+2) n a b hM hS) ?_);rintro _ T28 ⟨aiS,rfl⟩;refine afZ [6,7,8,9]<|Sx 10 [] (aab 4)<|afZ [11]<|QQ 1<|QI (aab 4) [] [0] (.tuple #[vI 0,.agg #[vI 0,vI 0,vI 0,vI 0],.bool false]) (ap [] [T28]) ⟨T28,rfl,?_⟩;exact⟨aiS.weak (by omega),rfl⟩
theorem HF(n c:Nat)(e0 e1 e2 a b d:Int)(hM:MemH mb M (k+5) T) :af1 210 #[.iface 95 (vP mb 0),.agg #[.slice A n c,vI e0,vI e1,vI e2],vI 0,vI a,vI b,vI d] (ap [] [T]) F (λ u H'=>∃x,H'=ap [] [x]/\(MemH mb (aK e0 d a b M) k x/\u=.bool (!(decide (e0<0))))):=by
 refine QF Tryz.func210 mn<|ae 28 [.o 0] λ n1=>aal (e0<0) 29 (λ h2=>?_) λ h2=>?_
 ·refine OG 6<|QI [] [] [0] (.bool false) (ap [] [T]) ⟨T,rfl,?_⟩;refine⟨?_,?_⟩
  ·simp only[aK,if_pos h2];exact hM.weak (by omega)
  ·rw[abw h2];rfl
 ·refine OG 4<|aak [8] []<|af [] [0,1,2,3,5,4,6,7] [.o 0]<|aae 8 (aaf [] [] [0] (al 6 e0 hM) ?_);rintro _ T3 R_;refine QQ 4<|aai [] [0] (al 7 0 R_) ?_;rintro _ T5 Vc;refine OG 6<|aai [] [0] (al 8 d Vc) ?_;rintro _ T7 Wt;refine OG 6<|aai [] [0] (al 9 a Wt) ?_;rintro _ T9 VE;refine OG 6<|aai [] [0] (al 10 b VE) ?_;rintro _ Ub Um;refine OG 7<|QI [] [] [0] (.bool true) (ap [] [Ub]) ⟨Ub,rfl,?_⟩;refine⟨?_,?_⟩
  ·simp only[aK,if_neg h2];exact Um.weak (by omega)
  ·rw[abv h2];rfl
theorem HG(n c:Nat)(e0 e1 e2 a b d:Int)(hM:MemH mb M (k+5) T) :af1 210 #[.iface 95 (vP mb 0),.agg #[.slice A n c,vI e0,vI e1,vI e2],vI 1,vI a,vI b,vI d] (ap [] [T]) F (λ u H'=>∃x,H'=ap [] [x]/\(MemH mb (aK e1 d a b M) k x/\u=.bool (!(decide (e1<0))))):=by
 refine QF Tryz.func210 mn<|ae 28 [.o 0] λ n1=>aal (e1<0) 29 (λ h2=>?_) λ h2=>?_
 ·refine OG 6<|QI [] [] [0] (.bool false) (ap [] [T]) ⟨T,rfl,?_⟩;refine⟨?_,?_⟩
  ·simp only[aK,if_pos h2];exact hM.weak (by omega)
  ·rw[abw h2];rfl
 ·refine OG 4<|aak [8] []<|af [] [0,1,2,3,5,4,6,7] [.o 0]<|aae 8 (aaf [] [] [0] (al 6 e1 hM) ?_);rintro _ T3 R_;refine QQ 4<|aai [] [0] (al 7 0 R_) ?_;rintro _ T5 Vc;refine OG 6<|aai [] [0] (al 8 d Vc) ?_;rintro _ T7 Wt;refine OG 6<|aai [] [0] (al 9 a Wt) ?_;rintro _ T9 VE;refine OG 6<|aai [] [0] (al 10 b VE) ?_;rintro _ Ub Um;refine OG 7<|QI [] [] [0] (.bool true) (ap [] [Ub]) ⟨Ub,rfl,?_⟩;refine⟨?_,?_⟩
  ·simp only[aK,if_neg h2];exact Um.weak (by omega)
  ·rw[abv h2];rfl
theorem HH(n c:Nat)(e0 e1 e2 a b d:Int)(hM:MemH mb M (k+5) T) :af1 210 #[.iface 95 (vP mb 0),.agg #[.slice A n c,vI e0,vI e1,vI e2],vI 2,vI a,vI b,vI d] (ap [] [T]) F (λ u H'=>∃x,H'=ap [] [x]/\(MemH mb (aK e2 d a b M) k x/\u=.bool (!(decide (e2<0))))):=by
 refine QF Tryz.func210 mn<|ae 28 [.o 0] λ n1=>aal (e2<0) 29 (λ h2=>?_) λ h2=>?_
 ·refine OG 6<|QI [] [] [0] (.bool false) (ap [] [T]) ⟨T,rfl,?_⟩;refine⟨?_,?_⟩
  ·simp only[aK,if_pos h2];exact hM.weak (by omega)
  ·rw[abw h2];rfl
 ·refine OG 4<|aak [8] []<|af [] [0,1,2,3,5,4,6,7] [.o 0]<|aae 8 (aaf [] [] [0] (al 6 e2 hM) ?_);rintro _ T3 R_;refine QQ 4<|aai [] [0] (al 7 0 R_) ?_;rintro _ T5 Vc;refine OG 6<|aai [] [0] (al 8 d Vc) ?_;rintro _ T7 Wt;refine OG 6<|aai [] [0] (al 9 a Wt) ?_;rintro _ T9 VE;refine OG 6<|aai [] [0] (al 10 b VE) ?_;rintro _ Ub Um;refine OG 7<|QI [] [] [0] (.bool true) (ap [] [Ub]) ⟨Ub,rfl,?_⟩;refine⟨?_,?_⟩
  ·simp only[aK,if_neg h2];exact Um.weak (by omega)
  ·rw[abv h2];rfl
theorem HI{op n sp:Int}(h:eY op n sp=true):1<=op/\op<=21:=by
 unfold eY at h
 by_cases h1:op<1
 ·rw[if_pos h1] at h;cases h
 ·rw[if_neg h1] at h
  by_cases h2:op>21
  ·rw[if_pos h2] at h;cases h
  ·omega
theorem Bg{code:List Ins}{b R n:Nat}(hM:MemH mb M (k+6) T)(hS:SetN S)(hE:cF F)(hc:(b,.rows 2 R (Q7 code) 230 (0,0))∈F)(hnR:n<=R)(hn2:n<=1000000):af1 211 #[.iface 95 (vP mb 0),(Setup.v S),.agg #[vS b 0 n cc,vI e0,vI e1,vI e2]] (ap [] [T]) F (λ u H'=>∃x,H'=ap [] [x]/\(MemH mb ((aj S code n M).M) k x/\u=.tuple #[.bool (cM code n M),.agg (aaa (aj S code n M).e).toArray,.bool ((aj S code n M).em)])):=by
 refine QF Tryz.func211 (mc hc (mc hE mn))<|ae 22 [] λ n1=>aah (aA 6 hM (ar 0))<|OG 1<|aah (aA 7 hM (ar 0))<|OG 1<|aah (aA 8 hM (ar 0))<|OG 11<|aal (M.get 8<1) 29 (λ h2=>?_) λ h2=>?_
 ·refine Sr 31 (aab 4)<|QI (aab 4) [] [0] (.tuple #[.bool true,.agg #[vI 0,vI 0,vI 0,vI 0],.bool false]) (ap [] [T]) ⟨T,rfl,?_⟩;have hr:¬ gc code n M:=λ WB=>WB.1 h2;refine⟨?_,?_⟩
  ·simp only[aj,cM,if_neg hr];exact hM.weak (by omega)
  ·first|(simp only[aj,cM,if_neg hr];try rfl;done)
 ·refine OG 4<|aal (M.get 6<0) 33 (λ h3=>?_) λ h3=>?_
  ·refine Sr 27 (aab 4)<|QI (aab 4) [] [0] (.tuple #[.bool true,.agg #[vI 0,vI 0,vI 0,vI 0],.bool false]) (ap [] [T]) ⟨T,rfl,?_⟩;have hr:¬ gc code n M:=λ WB=>WB.2.1 h3;refine⟨?_,?_⟩
   ·simp only[aj,cM,if_neg hr];exact hM.weak (by omega)
   ·first|(simp only[aj,cM,if_neg hr];try rfl;done)
  ·refine Sr 7 [.o 1]<|aal (M.get 6>=(n:Int)) 40 (λ h4=>?_) λ h4=>?_
   ·refine Sr 20 (aab 4)<|QI (aab 4) [] [0] (.tuple #[.bool true,.agg #[vI 0,vI 0,vI 0,vI 0],.bool false]) (ap [] [T]) ⟨T,rfl,?_⟩;have hr:¬ gc code n M:=λ WB=>WB.2.2.1 h4;refine⟨?_,?_⟩
    ·simp only[aj,cM,if_neg hr];exact hM.weak (by omega)
    ·first|(simp only[aj,cM,if_neg hr];try rfl;done)
   ·refine ah 6 [.o 1,.ix ((M.get 6).toNat),.rorow 0 ((M.get 6).toNat) 0,.rorow 0 ((M.get 6).toNat) 1] [((0+((M.get 6).toNat)*2)+1)=((M.get 6).toNat)*2+1/\((M.get 6).toNat)<R,(0+((M.get 6).toNat)*2)=((M.get 6).toNat)*2+0/\((M.get 6).toNat)<R,M.get 6=(((M.get 6).toNat:Nat):Int)/\(M.get 6).toNat<n] λ _=>aah (LT ((code.getD ((M.get 6).toNat) dIns).op) ((code.getD ((M.get 6).toNat) dIns).n) (M.get 7) (aC hE))<|OG 4<|rv (eY ((code.getD ((M.get 6).toNat) dIns).op) ((code.getD ((M.get 6).toNat) dIns).n) (M.get 7)) 49 (λ h5=>?_) λ h5=>?_
    ·have ho:=HI h5;refine ah 15 [.o 1,.ix ((M.get 6).toNat),.rorow 0 ((M.get 6).toNat) 0,.rorow 0 ((M.get 6).toNat) 1,.o 0,.o 0] [((0+((M.get 6).toNat)*2)+1)=((M.get 6).toNat)*2+1/\((M.get 6).toNat)<R,(0+((M.get 6).toNat)*2)=((M.get 6).toNat)*2+0/\((M.get 6).toNat)<R,M.get 6=(((M.get 6).toNat:Nat):Int)/\(M.get 6).toNat<n] λ n6=>aak [] []<|aH [] [0,5,1,6,2,7,3,8,4,9,10,11] [.o 0,.o 0,.ix (((code.getD ((M.get 6).toNat) dIns).op).toNat),.ix (((code.getD ((M.get 6).toNat) dIns).op).toNat),.rorow 1 (((code.getD ((M.get 6).toNat) dIns).op).toNat) 0,.rorow 1 (((code.getD ((M.get 6).toNat) dIns).op).toNat) 1] [((0+(((code.getD ((M.get 6).toNat) dIns).op).toNat)*3)+1)=(((code.getD ((M.get 6).toNat) dIns).op).toNat)*3+1/\(((code.getD ((M.get 6).toNat) dIns).op).toNat)<22,(0+(((code.getD ((M.get 6).toNat) dIns).op).toNat)*3)=(((code.getD ((M.get 6).toNat) dIns).op).toNat)*3+0/\(((code.getD ((M.get 6).toNat) dIns).op).toNat)<22,(code.getD ((M.get 6).toNat) dIns).op=((((code.getD ((M.get 6).toNat) dIns).op).toNat:Nat):Int)/\((code.getD ((M.get 6).toNat) dIns).op).toNat<22,(code.getD ((M.get 6).toNat) dIns).op=((((code.getD ((M.get 6).toNat) dIns).op).toNat:Nat):Int)/\((code.getD ((M.get 6).toNat) dIns).op).toNat<22]<|aad<|ae 20 (aab 4) λ n7=>RN.cut (σ:=Ins×Int×Int) (λ ⟨x_,a_,b_⟩=>⟨[(0,.iface 95 (vP mb 0)),(4,vP (n1+0) 0),(7,vP (n1+2) 0),(9,vI (M.get 6)),(10,vI (M.get 7)),(11,vI (M.get 8)),(12,vP (n6+0) 0),(13,vI (eP x_.op)),(14,vI (eQ x_.op)),(15,vP (n7+0) 0)],[((n7+0),.lit [vI x_.n,vI a_,vI b_] 331 (0,0)),((n6+0),.lit [vI x_.op,vI x_.n] 230 (0,0)),((n1+2),.lit [vI 0,vI 0,vI 0,vI 0] 112 (0,0)),((n1+1),.lit [vS b 0 n cc,vI e0,vI e1,vI e2] 80 (0,0)),((n1+0),.lit (Setup.l S) 32 (0,0))],[T],x_=fp code M/\a_=pj x_.op (M.get 7) M/\b_=pk x_.op (M.get 7) M,0⟩) ?_ ?_
     ·intro XO;refine OG 18<|aal (eP ((code.getD ((M.get 6).toNat) dIns).op)=2) 74 (λ h9=>?_) λ h9=>?_
      ·refine OG 10<|aah (aA (i64.wrap ((i64.wrap ((i64.wrap (16+(M.get 7)))-(eP ((code.getD ((M.get 6).toNat) dIns).op))))+1)) hM (ar 0))<|Sr 9 [.o 0]<|aah (aA (i64.wrap ((i64.wrap (16+(M.get 7)))-(eP ((code.getD ((M.get 6).toNat) dIns).op)))) hM (ar 0))<|ae 6 [.o 0] λ _=>XO ((code.getD (M.get 6).toNat dIns),M.get (i64.wrap ((i64.wrap (16+(M.get 7)))-(eP ((code.getD ((M.get 6).toNat) dIns).op)))),M.get (i64.wrap ((i64.wrap ((i64.wrap (16+(M.get 7)))-(eP ((code.getD ((M.get 6).toNat) dIns).op))))+1))) [0,1,2,3,4] [0] ?_
       try dsimp only
       refine⟨rfl,?_,?_⟩
       ·first|(simp only[pj,if_pos h9];try rfl;done)|rfl
       ·first|(simp only[pk,if_pos h9];try rfl;done)|rfl
      ·refine OG 9<|aal (eP ((code.getD ((M.get 6).toNat) dIns).op)=1) 76 (λ UE=>?_) λ UE=>?_
       ·refine OG 11<|aah (aA (i64.wrap ((i64.wrap (16+(M.get 7)))-(eP ((code.getD ((M.get 6).toNat) dIns).op)))) hM (ar 0))<|ae 6 [.o 0] λ _=>XO ((code.getD (M.get 6).toNat dIns),M.get (i64.wrap ((i64.wrap (16+(M.get 7)))-(eP ((code.getD ((M.get 6).toNat) dIns).op)))),0) [0,1,2,3,4] [0] ?_
        try dsimp only
        refine⟨rfl,?_,?_⟩
        ·first|(simp only[pj,if_neg h9,if_pos UE];try rfl;done)|rfl
        ·first|(simp only[pk,if_neg h9,if_pos UE];try rfl;done)|rfl
       ·refine ae 9 [] λ _=>XO ((code.getD (M.get 6).toNat dIns),0,0) [0,1,2,3,4] [0] ?_
        try dsimp only
        refine⟨rfl,?_,?_⟩
        ·first|(simp only[pj,if_neg h9,if_neg UE];try rfl;done)|rfl
        ·first|(simp only[pk,if_neg h9,if_neg UE];try rfl;done)|rfl
     ·rintro⟨x_,a_,b_⟩ ⟨WV,ha_,Z6⟩;have anE:1<=x_.op/\x_.op<=21:=by rw[WV];exact ho
      refine OG 6<|aai [] [0] (al 8 (i64.wrap ((M.get 8)-1)) hM) ?_;rintro _ Ub Um;refine OG 7<|aai [] [0] (al 6 (i64.wrap ((M.get 6)+1)) Um) ?_;rintro _ U2 UN;refine OG 3<|RN.cut (σ:=MemS×HL) (λ ⟨Xt,Tp_⟩=>⟨[(0,.iface 95 (vP mb 0)),(4,vP (n1+0) 0),(7,vP (n1+2) 0),(10,vI (M.get 7)),(12,vP (n6+0) 0),(13,vI (eP x_.op)),(14,vI (eQ x_.op)),(15,vP (n7+0) 0)],[((n7+0),.lit [vI x_.n,vI a_,vI b_] 331 (0,0)),((n6+0),.lit [vI x_.op,vI x_.n] 230 (0,0)),((n1+2),.lit [vI 0,vI 0,vI 0,vI 0] 112 (0,0)),((n1+1),.lit [vS b 0 n cc,vI e0,vI e1,vI e2] 80 (0,0)),((n1+0),.lit (Setup.l S) 32 (0,0))],[Tp_],Xt=mB x_.op (M.get 7) (M.get 6) (M.get 8) M/\MemH mb Xt (k+3) Tp_,0⟩) ?_ ?_
      ·intro adx;refine OG 7<|aam (eP x_.op=eQ x_.op) 97 (λ Wu=>?_) λ Wu=>?_
       ·refine ae 2 [] λ _=>adx (((M.set 8 (i64.wrap ((M.get 8)-1))).set 6 (i64.wrap ((M.get 6)+1))),U2) [0,1,2,3,4] [0] ?_
        try dsimp only
        refine⟨?_,UN.weak (by omega)⟩
        first|(simp only[mB,if_pos Wu];try rfl;done)|rfl
       ·refine OG 8<|aai [] [0] (al 7 (i64.wrap ((i64.wrap ((M.get 7)-(eP x_.op)))+(eQ x_.op))) UN) ?_;rintro _ V8 Vd;refine ae 1 [] λ _=>adx ((((M.set 8 (i64.wrap ((M.get 8)-1))).set 6 (i64.wrap ((M.get 6)+1))).set 7 (i64.wrap ((i64.wrap ((M.get 7)-(eP x_.op)))+(eQ x_.op)))),V8) [0,1,2,3,4] [0] ?_
        try dsimp only
        refine⟨?_,Vd.weak (by omega)⟩
        first|(simp only[mB,if_neg Wu];try rfl;done)|rfl
      ·rintro⟨Xt,Tp_⟩ ⟨ZU,aiP⟩;refine ae 8 ([.o 1]++ow 4 16++(aab 3)) λ _=>aai [] [0] (HE (k+1) x_.op x_.n a_ b_ aiP hS (by assumption)) ?_;rintro _ Wv ⟨XX,rfl⟩;refine Sr 16 (ow 2 4)<|aal (eQ x_.op>0) 116 (λ h21=>?_) λ h21=>?_
       ·refine OG 8<|aai [] [0] (al (i64.wrap ((i64.wrap (16+(M.get 7)))-(eP x_.op))) ((dz S x_.op x_.n a_ b_ Xt).v) XX) ?_;rintro _ Zi acu;refine OG 3<|aak [6] [0,1,3,4]<|af [0,1,3,4] [0,3,4,1,2,5] (ow 2 4++[.o 1])<|Sx 6 [0,1,3,4] (ow 2 4)<|af [0,1,3,4] [7] []<|QQ 1<|QI (ow 2 4) [] [0] (.tuple #[.bool (decide (x_.op=21)),.agg (aaa (dz S x_.op x_.n a_ b_ Xt).e).toArray,.bool ((dz S x_.op x_.n a_ b_ Xt).em)]) (ap [] [Zi]) ⟨Zi,rfl,?_⟩;have hr:gc code n M:=⟨h2,h3,h4,h5⟩;refine⟨?_,?_⟩
        ·simp only[aj,cM,if_pos hr,jN,iq,<- WV,<- ha_,<- Z6,<- ZU,if_pos h21];exact acu.weak (by omega)
        ·first|(simp only[aj,cM,if_pos hr,jN,iq,<- WV,<- ha_,<- Z6,<- ZU,if_pos h21];try rfl;done)
       ·refine OG 4<|aak [6] [0,1,3,4]<|af [0,1,3,4] [0,3,4,1,2,5] (ow 2 4++[.o 1])<|Sx 6 [0,1,3,4] (ow 2 4)<|af [0,1,3,4] [7] []<|QQ 1<|QI (ow 2 4) [] [0] (.tuple #[.bool (decide (x_.op=21)),.agg (aaa (dz S x_.op x_.n a_ b_ Xt).e).toArray,.bool ((dz S x_.op x_.n a_ b_ Xt).em)]) (ap [] [Wv]) ⟨Wv,rfl,?_⟩;have hr:gc code n M:=⟨h2,h3,h4,h5⟩;refine⟨?_,?_⟩
        ·simp only[aj,cM,if_pos hr,jN,iq,<- WV,<- ha_,<- Z6,<- ZU,if_neg h21];exact XX.weak (by omega)
        ·first|(simp only[aj,cM,if_pos hr,jN,iq,<- WV,<- ha_,<- Z6,<- ZU,if_neg h21];try rfl;done)
    ·refine Sr 9 (aab 4)<|QI (aab 4) [] [0] (.tuple #[.bool true,.agg #[vI 0,vI 0,vI 0,vI 0],.bool false]) (ap [] [T]) ⟨T,rfl,?_⟩;have hr:¬ gc code n M:=λ WB=>h5 WB.2.2.2;refine⟨?_,?_⟩
     ·simp only[aj,cM,if_neg hr];exact hM.weak (by omega)
     ·first|(simp only[aj,cM,if_neg hr];try rfl;done)
theorem EH(S:Setup)(code:List Ins)(A:Option Addr)(cc:Nat)(e0 e1 e2:Int)(F:HL)(hM:MemH mb M (k+6) T) :af1 211 #[.iface 95 (vP mb 0),(Setup.v S),.agg #[.slice A 0 cc,vI e0,vI e1,vI e2]] (ap [] [T]) F (λ u H'=>∃x,H'=ap [] [x]/\(MemH mb ((aj S code 0 M).M) k x/\u=.tuple #[.bool (cM code 0 M),.agg (aaa (aj S code 0 M).e).toArray,.bool ((aj S code 0 M).em)])):=by
 refine QF Tryz.func211 mn<|ae 22 [] λ n1=>aah (aA 6 hM (ar 0))<|OG 1<|aah (aA 7 hM (ar 0))<|OG 1<|aah (aA 8 hM (ar 0))<|OG 11<|aal (M.get 8<1) 29 (λ h2=>?_) λ h2=>?_
 ·refine Sr 31 (aab 4)<|QI (aab 4) [] [0] (.tuple #[.bool true,.agg #[vI 0,vI 0,vI 0,vI 0],.bool false]) (ap [] [T]) ⟨T,rfl,?_⟩;have hr:¬ gc code 0 M:=λ WB=>WB.1 h2;refine⟨?_,?_⟩
  ·simp only[aj,cM,if_neg hr];exact hM.weak (by omega)
  ·first|(simp only[aj,cM,if_neg hr];try rfl;done)
 ·refine OG 4<|aal (M.get 6<0) 33 (λ h3=>?_) λ h3=>?_
  ·refine Sr 27 (aab 4)<|QI (aab 4) [] [0] (.tuple #[.bool true,.agg #[vI 0,vI 0,vI 0,vI 0],.bool false]) (ap [] [T]) ⟨T,rfl,?_⟩;have hr:¬ gc code 0 M:=λ WB=>WB.2.1 h3;refine⟨?_,?_⟩
   ·simp only[aj,cM,if_neg hr];exact hM.weak (by omega)
   ·first|(simp only[aj,cM,if_neg hr];try rfl;done)
  ·refine Sr 7 [.o 1]<|aal (M.get 6>=0) 40 (λ h4=>?_) λ h4=>?_
   ·refine Sr 20 (aab 4)<|QI (aab 4) [] [0] (.tuple #[.bool true,.agg #[vI 0,vI 0,vI 0,vI 0],.bool false]) (ap [] [T]) ⟨T,rfl,?_⟩;have hr:¬ gc code 0 M:=λ WB=>WB.2.2.1 (by simpa using h4);refine⟨?_,?_⟩
    ·simp only[aj,cM,if_neg hr];exact hM.weak (by omega)
    ·first|(simp only[aj,cM,if_neg hr];try rfl;done)
   ·exact absurd (show M.get 6>=0 by omega) h4
theorem iJ{code:List Ins}{A:Option Addr}{n:Nat}(hM:MemH mb M (k+6) T)(hS:SetN S)(hE:cF F)(hc:CodeIn F code A n):af1 211 #[.iface 95 (vP mb 0),(Setup.v S),.agg #[.slice A n cc,vI e0,vI e1,vI e2]] (ap [] [T]) F (λ u H'=>∃x,H'=ap [] [x]/\(MemH mb (aj S code n M).M k x/\u=.tuple #[.bool (cM code n M),.agg (aaa (aj S code n M).e).toArray,.bool ((aj S code n M).em)])):=by
 cases hc with
 |nil=>exact EH k S code A cc e0 e1 e2 F hM
 |mk b R n h h1 h2=>exact Bg k cc e0 e1 e2 hM hS hE h h1 h2
end Go.Proofs.YtjokannbjmndfaaGreatDoor
