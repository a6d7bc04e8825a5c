import Derived.Test.YtjokannbjmndfaaGreatDoorZ17
import Derived.Test.YtjokannbjmndfaaGreatDoorZ07
set_option linter.all false
set_option maxHeartbeats 4000000
set_option maxRecDepth 100000
namespace Go.Proofs.YtjokannbjmndfaaGreatDoor
open IntKind
open Go.RowKit
variable {A:Option Addr} {F T X:HL} {M:MemS} {S:Setup} {cap i k mb n:Nat} {xs:List Int} {α:Type} (r:Int)
def xo(cs:List Int)(i:Nat):List Int:=cs.take i++List.replicate (cs.length-i) 0
theorem uB(n:Nat):vJ [vI 0]=aY (List.replicate n 0):=by
 funext i k;rcases k with _|k
 ·have:(List.replicate n (0:Int)).getD i 0=0:=by
   rw[aaG,ac2];split <;> rfl
  show vI 0=vI _;rw[this]
 ·simp[vJ,aY]
theorem yx(cs:List Int):vJ [vI 0]=aY (xo cs 0):=by rw[uB cs.length];simp[xo]
theorem C7(cs:List Int):xo cs cs.length=cs:=by simp[xo]
theorem yz{cs:List Int}(h:i<cs.length):db (aY (xo cs i)) i 0 (vI (cs.getD i 0))=aY (xo cs (i+1)):=by
 rw[fS (by simp[xo];omega)];congr 1;unfold xo;rw[List.set_append_right _ _ (by simp;omega)];have e:cs.length-i=(cs.length-(i+1))+1:=by omega
 rw[e,List.replicate_succ,acQ h,aaF];simp[aaN,adm (Nat.le_of_lt h),h]
theorem MemH.len(h:MemH mb M k T):M.cs.length<=1000000:=by
 cases h with
 |mk cb A cap Hl hs hc hl=>exact hc
theorem Mg{cb:Nat}{m:Nat}{base:Int}(hm:(mb,.lit [vS cb 0 n n,.slice A m cap,vI base] 164 (0,0))∈F):af0 71 #[vP mb 0] F (vI (n:Int)):=by
 refine QH Tryz.func71 hm<|ae 15 [.ro 0] λ _=>QJ _ _ ⟨rfl,rfl⟩
theorem C8(h:MemH mb M k T)(hs:∀x∈T,x∈F):af0 71 #[vP mb 0] F (vI (M.cs.length:Int)):=by
 cases h with
 |mk cb A cap Hl Wp hc hl=>exact Mg (mb:=mb) (cb:=cb) (n:=M.cs.length) (A:=A) (m:=M.lg.length) (cap:=cap) (base:=M.base) (F:=F) (hs _ (by simp))
theorem Mh(h:i<M.cs.length):M.get (i:Int)=M.cs.getD i 0:=by
 unfold MemS.get;rw[if_pos (by omega),aeu]
theorem Fq(hM:MemH mb M k T)(hT:∀x∈T,x∈F):af1 42 #[vP mb 0] (ap [] []) F (λ u H'=>∃q,H'=ap [(q,.rows 1 M.cs.length (aY M.cs) 3 (0,0))] []/\u=vS q 0 M.cs.length M.cs.length):=by
 have hl:=hM.len;refine QG Tryz.func42<|OG 8<|aah (C8 hM (λ x hx=>aaz _ (hT x hx)))<|ah 8 [.mk M.cs.length M.cs.length] [(M.cs.length:Int)=((M.cs.length:Nat):Int)/\(M.cs.length:Int)=((M.cs.length:Nat):Int)/\M.cs.length<=M.cs.length/\8*M.cs.length<=140737488355328/\1=1/\M.cs.length<=9223372036854775807] λ n1=>aah (C8 hM (λ x hx=>aaz _ (hT x hx)))<|OG 4<|RN.bv 0 (congrArg (λ v_=>(.rows 1 M.cs.length v_ 3 (0,0):Blk)) (show (vJ [vI 0])=(aY (xo M.cs 0)) from (by rw[yx M.cs])))<|aan (σ:=Nat) (λ i=>⟨[(0,vP mb 0),(3,vS (n1+0) 0 M.cs.length M.cs.length),(9,vI (M.cs.length:Int)),(10,vI (i:Int))],[((n1+0),.rows 1 M.cs.length (aY (xo M.cs i)) 3 (0,0))],[],i<=M.cs.length,M.cs.length-i⟩) 0 [0] [] (aaJ _) ?_;rintro i hI2 UC;refine OG 6<|aal ((i:Int)<(M.cs.length:Int)) 11 (λ h4=>?_) λ h4=>?_
 ·refine OG 16<|aah (aA (i:Int) hM (λ x hx=>aaz _ (hT x hx)))<|ah 9 [.ix i,.row 0 i 0,.nw] [aX ((i:Int)+1),(0+i*1)=i*1+0/\i<M.cs.length,(i:Int)=((i:Nat):Int)/\i<M.cs.length] λ _=>RN.bv 0 (congrArg (λ v_=>(.rows 1 M.cs.length v_ 3 (0,0):Blk)) (show (db (aY (xo M.cs i)) i 0 (vI (M.get (i:Int))))=(aY (xo M.cs (i+1))) from (by rw[<- yz (cs:=M.cs) (i:=i) (by omega)];rw[Mh (by omega)])))<|UC (i+1) [0] [] ?_
  try dsimp only
  exact⟨by omega,by omega⟩
 ·refine OG 12<|QI [] [0] [] (vS (n1+0) 0 M.cs.length M.cs.length) [((n1+0),.rows 1 M.cs.length (aY (xo M.cs i)) 3 (0,0))] ?_;have ei:i=M.cs.length:=by omega
  subst ei;exact⟨_,by rw[C7];rfl,rfl⟩
theorem Mi{q:Nat}{cs:List Int}(hq:(q,.rows 1 cs.length (aY cs) 3 (0,0))∈F)(hc:cs.length<=1000000)(hk:k<=100000000)(hcap:cs.length<=cap):af1 52 #[vS q 0 cs.length cap] [] F (λ u H'=>∃x:Nat×HL,H'=ap [] [x.2]/\(u=vP x.1 0/\MemH x.1 ⟨cs,[],0⟩ k x.2)):=by
 refine QH Tryz.func52 hq<|ah 24 [.mk cs.length cs.length] [(cs.length:Int)=((cs.length:Nat):Int)/\(cs.length:Int)=((cs.length:Nat):Int)/\cs.length<=cs.length/\8*cs.length<=140737488355328/\1=1/\cs.length<=9223372036854775807] λ n1=>RN.bv 1 (congrArg (λ v_=>(.rows 1 cs.length v_ 3 (0,0):Blk)) (show (vJ [vI 0])=(aY (xo cs 0)) from (by rw[yx cs])))<|aan (σ:=Nat) (λ i=>⟨[(0,vS q 0 cs.length cap),(3,vP (n1+1) 0),(11,vI (cs.length:Int)),(12,vI (i:Int))],[((n1+1),.lit [vS (n1+0) 0 cs.length cs.length,.slice none 0 0,vI 0] 164 (0,0)),((n1+0),.rows 1 cs.length (aY (xo cs i)) 3 (0,0))],[],i<=cs.length,cs.length-i⟩) 0 [0,1] [] (aaJ _) ?_;rintro i hI2 UC;refine OG 6<|aal ((i:Int)<(cs.length:Int)) 13 (λ h4=>?_) λ h4=>?_
 ·refine OG 11<|aak [10] []<|aH [] [0,4,5,6,1,7,2,8,3,9] [.ix i,.rorow 0 i 0,.o 0,.ix i] [(i:Int)=((i:Nat):Int)/\i<cs.length,(0+i*1)=i*1+0/\i<cs.length,(i:Int)=((i:Nat):Int)/\i<cs.length]<|aae 10 (fR [] [.row 1 i 0] [(0+i*1)=i*1+0/\i<cs.length] λ _=>?_);refine aad<|ah 6 [.nw] [aX ((i:Int)+1)] λ _=>RN.bv 1 (congrArg (λ v_=>(.rows 1 cs.length v_ 3 (0,0):Blk)) (show (db (aY (xo cs i)) i 0 (vI (cs.getD i 0)))=(aY (xo cs (i+1))) from (by rw[<- yz (cs:=cs) (i:=i) (by omega)])))<|UC (i+1) [0,1] [] ?_
  try dsimp only
  exact⟨by omega,by omega⟩
 ·refine OG 12<|QI [] [0,1] [] (vP (n1+1) 0) [((n1+1),.lit [vS (n1+0) 0 cs.length cs.length,.slice none 0 0,vI 0] 164 (0,0)),((n1+0),.rows 1 cs.length (aY (xo cs i)) 3 (0,0))] ?_;have ei:i=cs.length:=by omega
  subst ei;rw[C7];have hmm:=MemH.mk (mb:=(n1+1)) (M:=⟨cs,[],0⟩) (k:=k) (n1+0) none 0 [] (aas _ _) hc (show ([]:List (Int×Int)).length+k<=100000000 by simpa using hk);exact⟨((n1+1),_),rfl,rfl,hmm⟩
def aq(n UF:Int):Int:=(if n<0 then aV (0-aV (n+1)) else n).tmod UF
theorem gu(n:Int)(UF:Int)(h0:UF≠0):af0 23 #[vI n,vI UF] F (vI (aq n UF)):=by
 refine QG Tryz.func23<|OG 12<|aal (n<0) 6 (λ h1=>?_) λ h1=>?_
 ·refine ru 16 [.gen,.dv] (λ _=>[UF≠0]) (λ _=>(ac h0 an)) λ _=>QJ (vI ((i64.wrap (0-(i64.wrap (n+1)))).tmod UF)) [] ⟨by unfold aq;simp[*],rfl⟩
 ·refine ru 11 [.dv] (λ _=>[UF≠0]) (λ _=>(ac h0 an)) λ _=>QJ (vI (n.tmod UF)) [] ⟨by unfold aq;simp[*],rfl⟩
def rO(n:Int):Int:=aq n 1000
def pq(n:Int):Int:=aV (512*aV (1+(aV ((rO n).tdiv 7)).tmod 5))
def tF(r:Int):List V2:=[⟨aV (0-r),aV (0-r)⟩,⟨r,aV (0-r)⟩,⟨r,r⟩,⟨aV (0-r),r⟩]
def yA(r:Int):List V2:=[⟨aV (0-r),aV (0-r)⟩,⟨r,aV (0-r)⟩,⟨0,r⟩]
def yB(r:Int):List V2:=[⟨aV (-2*r),-300⟩,⟨aV (2*r),-300⟩,⟨aV (2*r),300⟩,⟨aV (-2*r),300⟩]
def cE(n:Int):Int×List V2:=if (rO n).tmod 7=0 then (pq n,[]) else if (rO n).tmod 7=1 then (pq n,[]) else if (rO n).tmod 7=2 then (pq n,[]) else if (rO n).tmod 7=3 then (0,tF (pq n)) else if (rO n).tmod 7=4 then (0,tF (pq n)) else if (rO n).tmod 7=5 then (0,yA (pq n)) else (0,yB (pq n))
def ShH(s:Shp)(T:HL):Prop:=∀F,(∀x∈T,x∈F)->ShIn F s
theorem ShH.circle(A:Option Addr)(cap:Nat):ShH ⟨r,[],A,cap⟩ []:=λ F _=>.circle r A cap
theorem ShH.poly(l:List V2)(b cap:Nat)(h3:3<=l.length)(h4:l.length<=cap)(h5:l.length<=1000000):ShH ⟨r,l,some ⟨b,0,none⟩,cap⟩ [(b,.rows 2 cap (jL l) 30 (0,0))]:=λ F h=>.poly r l b cap (h _ (by simp)) h3 h4 h5
theorem yC(n:Int):af1 24 #[vI n] [] F (λ u H'=>∃x:Option Addr×Nat×HL,H'=ap [] [x.2.2]/\(u=Qw ⟨(cE n).1,(cE n).2,x.1,x.2.1⟩/\ShH ⟨(cE n).1,(cE n).2,x.1,x.2.1⟩ x.2.2)):=by
 refine QG Tryz.func24<|ae 8 [] λ n1=>aah (gu n 1000 (by decide))<|OG 28<|aal ((rO n).tmod 7=0) 14 (λ h2=>?_) λ h2=>?_
 ·refine Sr 11 (aab 2)<|QI (aab 2) [] [] (.agg #[vI (i64.wrap (512*(i64.wrap (1+((i64.wrap ((rO n).tdiv 7)).tmod 5))))),.slice none 0 0]) [] ?_;have e:cE n=(pq n,[]):=by simp only[cE,if_pos h2]
  rw[e];exact⟨(none,0,[]),rfl,rfl,ShH.circle _ _ _⟩
 ·refine OG 7<|aal ((rO n).tmod 7=1) 14 (λ h3=>?_) λ h3=>?_
  ·refine Sr 11 (aab 2)<|QI (aab 2) [] [] (.agg #[vI (i64.wrap (512*(i64.wrap (1+((i64.wrap ((rO n).tdiv 7)).tmod 5))))),.slice none 0 0]) [] ?_;have e:cE n=(pq n,[]):=by simp only[cE,if_neg h2,if_pos h3]
   rw[e];exact⟨(none,0,[]),rfl,rfl,ShH.circle _ _ _⟩
  ·refine OG 6<|aal ((rO n).tmod 7=2) 14 (λ h4=>?_) λ h4=>?_
   ·refine Sr 8 (aab 2)<|QI (aab 2) [] [] (.agg #[vI (i64.wrap (512*(i64.wrap (1+((i64.wrap ((rO n).tdiv 7)).tmod 5))))),.slice none 0 0]) [] ?_;have e:cE n=(pq n,[]):=by simp only[cE,if_neg h2,if_neg h3,if_pos h4]
    rw[e];exact⟨(none,0,[]),rfl,rfl,ShH.circle _ _ _⟩
   ·refine OG 8<|aal ((rO n).tmod 7=3) 20 (λ h5=>?_) λ h5=>?_
    ·refine ae 27 [.o 1,.o 1] λ n6=>aaj 0 (.rows 2 4 (jL (tF (pq n))) 30 (0,0))<|QI [.o 1,.o 1] [0] [] (.agg #[vI 0,vS (n6+0) 0 4 4]) [((n6+0),.rows 2 4 (jL (tF (pq n))) 30 (0,0))] ?_;have e:cE n=(0,tF (pq n)):=by simp only[cE,if_neg h2,if_neg h3,if_neg h4,if_pos h5]
     rw[e];exact⟨(some ⟨(n6+0),0,none⟩,4,_),rfl,rfl,ShH.poly 0 (tF (pq n)) (n6+0) 4 (aaH rfl) (aaH rfl) (aaH rfl)⟩
    ·refine OG 6<|aal ((rO n).tmod 7=4) 20 (λ h7=>?_) λ h7=>?_
     ·refine ae 24 [.o 1,.o 1] λ n8=>aaj 0 (.rows 2 4 (jL (tF (pq n))) 30 (0,0))<|QI [.o 1,.o 1] [0] [] (.agg #[vI 0,vS (n8+0) 0 4 4]) [((n8+0),.rows 2 4 (jL (tF (pq n))) 30 (0,0))] ?_;have e:cE n=(0,tF (pq n)):=by simp only[cE,if_neg h2,if_neg h3,if_neg h4,if_neg h5,if_pos h7]
      rw[e];exact⟨(some ⟨(n8+0),0,none⟩,4,_),rfl,rfl,ShH.poly 0 (tF (pq n)) (n8+0) 4 (aaH rfl) (aaH rfl) (aaH rfl)⟩
     ·refine OG 7<|aal ((rO n).tmod 7=5) 41 (λ h9=>?_) λ h9=>?_
      ·refine ae 19 [.o 1,.o 1] λ n10=>aaj 0 (.rows 2 3 (jL (yA (pq n))) 30 (0,0))<|QI [.o 1,.o 1] [0] [] (.agg #[vI 0,vS (n10+0) 0 3 3]) [((n10+0),.rows 2 3 (jL (yA (pq n))) 30 (0,0))] ?_;have e:cE n=(0,yA (pq n)):=by simp only[cE,if_neg h2,if_neg h3,if_neg h4,if_neg h5,if_neg h7,if_pos h9]
       rw[e];exact⟨(some ⟨(n10+0),0,none⟩,3,_),rfl,rfl,ShH.poly 0 (yA (pq n)) (n10+0) 3 (aaH rfl) (aaH rfl) (aaH rfl)⟩
      ·refine ae 23 [.o 1,.o 1] λ n11=>aaj 0 (.rows 2 4 (jL (yB (pq n))) 30 (0,0))<|QI [.o 1,.o 1] [0] [] (.agg #[vI 0,vS (n11+0) 0 4 4]) [((n11+0),.rows 2 4 (jL (yB (pq n))) 30 (0,0))] ?_;have e:cE n=(0,yB (pq n)):=by simp only[cE,if_neg h2,if_neg h3,if_neg h4,if_neg h5,if_neg h7,if_neg h9]
       rw[e];exact⟨(some ⟨(n11+0),0,none⟩,4,_),rfl,rfl,ShH.poly 0 (yB (pq n)) (n11+0) 4 (aaH rfl) (aaH rfl) (aaH rfl)⟩
theorem pr(h:SetN S)(hi:i<S.nb):0<=ag S i/\ag S i+8<=sizeOf S/\sizeOf S<=20000000:=by
 have:=h.pl;have:=h.nb;unfold ag sizeOf;rw[if_neg (by omega),if_neg (by omega)];omega
theorem Fs(h:SetN S):48<=sizeOf S/\sizeOf S<=20000000:=by
 have:=h.pl;have:=h.nb;unfold sizeOf;omega
def bz(S:Setup):Nat->List Int
 |0=>List.replicate (sizeOf S).toNat 0
 |i+1=>((((((bz S i).set (ag S i).toNat (S.body i).mot.px).set (ag S i+1).toNat (S.body i).mot.py).set (ag S i+2).toNat (S.body i).mot.vx).set (ag S i+3).toNat (S.body i).mot.vy).set (ag S i+4).toNat (S.body i).a).set (ag S i+5).toNat (S.body i).b
theorem jQ(S:Setup):∀i,(bz S i).length=(sizeOf S).toNat
 |0=>by simp[bz]
 |i+1=>by simp[bz,jQ S i]
theorem Ft(h:SetN S)(hi:i<S.nb):db (db (db (db (db (db (aY (bz S i)) (ag S i).toNat 0 (vI (S.body i).mot.px)) (ag S i+1).toNat 0 (vI (S.body i).mot.py)) (ag S i+2).toNat 0 (vI (S.body i).mot.vx)) (ag S i+3).toNat 0 (vI (S.body i).mot.vy)) (ag S i+4).toNat 0 (vI (S.body i).a)) (ag S i+5).toNat 0 (vI (S.body i).b)=aY (bz S (i+1)):=by
 have:=pr h hi;rw[fS,fS,fS,fS,fS,fS,bz] <;> (simp only[ack,jQ];omega)
def dV:Enc Int:=⟨1,λ p k=>match k with|0=>vI p|_=>vI p,0⟩
noncomputable def N9:TypeInfo:=match Tryz.prog.info? 3 with | some i=>i | none=>⟨.bool,"",0,0,false,0,0,none,false,#[]⟩
noncomputable def Oa:Value:=match N9.zero with|some z=>z|none=>.bool false
theorem wo:EncOk dV Tryz.prog 3 N9 Oa where
 info:=by kernel_rfl
 zero:=by kernel_rfl
 size:=by kernel_rfl
 zsize:=by kernel_rfl
 zcell:=λ k hk=>by
  have h:∀k<1,Oa.cells[k]?=some (dV.cell dV.dflt k):=by intro k hk;(iterate 1 (rcases k with _|k;· kernel_rfl));omega
  exact h k hk
 one:=λ x k=>by unfold dV;dsimp only;split <;> rfl
 bytes:=aaH (by kernel_rfl)
abbrev pv(n:Int):Prop:=-9223372036854775808<=n/\n<=9223372036854775807
theorem dH{n:Int}(hn:pv n)(UF:Int)(h:0<UF):0<=aq n UF/\aq n UF<UF:=by
 unfold aq;have hx:0<=(if n<0 then aV (0-aV (n+1)) else n):=by
  split
  ·rw[cP (x:=n+1) (by omega),cP (by omega)];omega
  ·omega
 exact⟨Int.tmod_nonneg _ hx,Int.tmod_lt_of_pos _ h⟩
inductive ArgL(F:HL):Option Addr->Nat->List Int->Prop
 |zero (A:Option Addr):ArgL F A 0 []
 |cells (q o N:Nat) (g:Nat->Nat->Value) (ty:TypeId) (fz:Nat×Nat) (xs:List Int) (hq:(q,.rows 1 N g ty fz)∈F) (ho:o+xs.length<=N) (hx:∀k,k<xs.length->g (o+k) 0=vI (xs.getD k 0)) (hb:∀k,k<xs.length->pv (xs.getD k 0)):ArgL F (some ⟨q,o,none⟩) xs.length xs
theorem ArgL.up(h:ArgL F A n xs):ArgL (X++F) A n xs:=by
 cases h with
 |zero=>exact .zero _
 |cells q o N g ty fz xs hq ho hx hb=>exact .cells q o N g ty fz xs (aaz _ hq) ho hx hb
theorem ArgL.len(h:ArgL F A n xs):xs.length=n:=by
 cases h <;> rfl
theorem ArgL.at(h:ArgL F A n xs)(hk:k<n):∃q o N g ty fz,A=some ⟨q,o,none⟩/\(q,.rows 1 N g ty fz)∈F/\o+k<N/\g (o+k) 0=vI (xs.getD k 0)/\pv (xs.getD k 0):=by
 cases h with
 |zero=>omega
 |cells q o N g ty fz xs hq ho hx hb=>exact⟨q,o,N,g,ty,fz,rfl,hq,by omega,hx k hk,hb k hk⟩
def kv(xs:List Int)(i:Nat):Int:=if i<xs.length then aq (xs.getD i 0) 1000000 else 0
theorem iu(h:ArgL F A n xs)(i:Nat):0<=kv xs i/\kv xs i<1000000:=by
 unfold kv;split
 ·next hi=>
  rw[h.len] at hi;obtain⟨_,_,_,_,_,_,_,_,_,_,hr⟩:=h.at hi;exact dH hr 1000000 (by decide)
 ·omega
def ks(xs:List Int)(n:Nat):List Int:=(List.range n).map (kv xs)
theorem ne(xs:List Int)(n:Nat):(ks xs n).length=n:=by simp[ks]
theorem C9(xs:List Int)(n:Nat):ks xs (n+1)=ks xs n++[kv xs n]:=by simp[ks,adn]
theorem Po(h:i<n):(ks xs n).getD i 0=kv xs i:=by simp[ks,h]
structure Dr where (a b:Int)
def mD:Enc V2:=⟨2,λ p k=>match k with|0=>vI p.x|_=>vI p.y,⟨0,0⟩⟩
noncomputable def Oc:TypeInfo:=match Tryz.prog.info? 30 with | some i=>i | none=>⟨.bool,"",0,0,false,0,0,none,false,#[]⟩
noncomputable def Od:Value:=match Oc.zero with|some z=>z|none=>.bool false
theorem IM:EncOk mD Tryz.prog 30 Oc Od where
 info:=by kernel_rfl
 zero:=by kernel_rfl
 size:=by kernel_rfl
 zsize:=by kernel_rfl
 zcell:=λ k hk=>by
  have h:∀k<2,Od.cells[k]?=some (mD.cell mD.dflt k):=by intro k hk;(iterate 2 (rcases k with _|k;· kernel_rfl));omega
  exact h k hk
 one:=λ x k=>by unfold mD;dsimp only;split <;> rfl
 bytes:=aaH (by kernel_rfl)
def yD:Enc Bx:=⟨4,λ p k=>match k with|0=>vI p.x0|1=>vI p.y0|2=>vI p.x1|_=>vI p.y1,⟨0,0,0,0⟩⟩
noncomputable def Rp:TypeInfo:=match Tryz.prog.info? 26 with | some i=>i | none=>⟨.bool,"",0,0,false,0,0,none,false,#[]⟩
noncomputable def Rq:Value:=match Rp.zero with|some z=>z|none=>.bool false
theorem Oe:EncOk yD Tryz.prog 26 Rp Rq where
 info:=by kernel_rfl
 zero:=by kernel_rfl
 size:=by kernel_rfl
 zsize:=by kernel_rfl
 zcell:=λ k hk=>by
  have h:∀k<4,Rq.cells[k]?=some (yD.cell yD.dflt k):=by intro k hk;(iterate 4 (rcases k with _|k;· kernel_rfl));omega
  exact h k hk
 one:=λ x k=>by unfold yD;dsimp only;split <;> rfl
 bytes:=aaH (by kernel_rfl)
def ng:Enc Dr:=⟨2,λ p k=>match k with|0=>vI p.a|_=>vI p.b,⟨0,0⟩⟩
noncomputable def Rt:TypeInfo:=match Tryz.prog.info? 67 with | some i=>i | none=>⟨.bool,"",0,0,false,0,0,none,false,#[]⟩
noncomputable def Ru:Value:=match Rt.zero with|some z=>z|none=>.bool false
theorem Og:EncOk ng Tryz.prog 67 Rt Ru where
 info:=by kernel_rfl
 zero:=by kernel_rfl
 size:=by kernel_rfl
 zsize:=by kernel_rfl
 zcell:=λ k hk=>by
  have h:∀k<2,Ru.cells[k]?=some (ng.cell ng.dflt k):=by intro k hk;(iterate 2 (rcases k with _|k;· kernel_rfl));omega
  exact h k hk
 one:=λ x k=>by unfold ng;dsimp only;split <;> rfl
 bytes:=aaH (by kernel_rfl)
structure MapIn(F:HL)(S:Setup)(rs:List Bx)(ds:List Dr):Prop where
 rooms:RowL yD 26 F S.rA S.rn rs
 doors:RowL ng 67 F S.dA S.dn ds
theorem MapIn.up{rs:List Bx}{ds:List Dr}(h:MapIn F S rs ds):MapIn (X++F) S rs ds:=⟨h.rooms.up,h.doors.up⟩
abbrev tG:List Bx:=[⟨-12000,-9000,-1,9000⟩,⟨0,0,12000,9000⟩,⟨0,-9000,12000,-1⟩]
abbrev lh(i:Nat):List Dr:=match i with|0=>[]|1=>[⟨0,1⟩]|_=>[⟨0,2⟩,⟨1,2⟩]
def ClS{α:Type}(e:Enc α)(T:TypeId)(xs:List α)(A':Option Addr)(c':Nat)(Hl:HL):Prop:=∃A0,NewS e T xs A0 A' c' Hl
theorem ClS.rowL{e:Enc α}{T:TypeId}{xs:List α}{A':Option Addr}{c':Nat}{Hl:HL}(h:ClS e T xs A' c' Hl)(hF:∀x∈Hl,x∈F):RowL e T F A' xs.length xs:=h.elim λ _ h=>h.rowL hF
theorem ClS.nil(e:Enc α)(T:TypeId)(A:Option Addr):ClS e T [] A 0 []:=⟨A,.inl ⟨rfl,rfl,rfl,rfl⟩⟩
end Go.Proofs.YtjokannbjmndfaaGreatDoor
