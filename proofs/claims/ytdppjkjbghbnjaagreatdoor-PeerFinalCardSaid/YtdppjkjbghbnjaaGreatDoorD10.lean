import Derived.Test.YtdppjkjbghbnjaaGreatDoorD09
set_option maxHeartbeats 4000000
set_option maxRecDepth 100000
set_option linter.all false
namespace Go.Proofs.YtdppjkjbghbnjaaGreatDoor
open IntKind
open Go.RowKit
def vY(cs:List Int)(i:Nat):List Int:=cs.take i++List.replicate (cs.length-i) 0
theorem ti(n:Nat):uv [vI 0]=aU (List.replicate n 0):=by
 funext i k;rcases k with _|k
 ·have:(List.replicate n (0:Int)).getD i 0=0:=by
   rw[aaJ,List.getElem?_replicate];split <;> rfl
  show vI 0=vI _;rw[this]
 ·simp[uv,aU]
theorem xh(cs:List Int):uv [vI 0]=aU (vY cs 0):=by rw[ti cs.length];simp[vY]
theorem BS(cs:List Int):vY cs cs.length=cs:=by simp[vY]
theorem xj{cs:List Int}{i:Nat}(h:i<cs.length):dD (aU (vY cs i)) i 0 (vI (cs.getD i 0))=aU (vY cs (i+1)):=by
 rw[fT (by simp[vY];omega)];congr 1;unfold vY;rw[List.set_append_right _ _ (by simp;omega)];have e:cs.length-i=(cs.length-(i+1))+1:=by omega
 rw[e,List.replicate_succ,List.take_succ_eq_append_getElem h,aaC];simp[abk,Nat.min_eq_left (Nat.le_of_lt h),h]
theorem MemH.len{mb:Nat}{M:MemS}{k:Nat}{T:HL}(h:MemH mb M k T):M.cs.length <= 1000000:=by
 cases h with
 | mk cb A cap Hl hs hc hl=>exact hc
theorem Kz(mb cb n:Nat)(A:Option Addr)(m cap:Nat)(base:Int)(F:HL)(hm:(mb,.lit [vS cb 0 n n,.slice A m cap,vI base] 162 (0,0))∈F):Sp Tryz.prog 79 #[vP mb 0] [] F (λ u H'=>u=vI (n:Int) /\ H'=[]):=by
 refine aat Tryz.func79 rfl (mc hm mn) (A:=[]) (Ts:=[]) rfl λ w0=>?_;refine ae 15 [.ro 0] λ _=>?_;exact aap [] [] [] ⟨rfl,rfl⟩
theorem BT{mb:Nat}{M:MemS}{k:Nat}{T:HL}{F:HL}(h:MemH mb M k T)(hs:∀x∈T,x∈F):Sp Tryz.prog 79 #[vP mb 0] [] F (λ u H'=>u=vI (M.cs.length:Int) /\ H'=[]):=by
 cases h with
 | mk cb A cap Hl Tk hc hl=>exact Kz mb cb M.cs.length A M.lg.length cap M.base F (hs _ (by simp))
theorem KA{M:MemS}{i:Nat}(h:i<M.cs.length):M.get (i:Int)=M.cs.getD i 0:=by
 unfold MemS.get;rw[if_pos (by omega),Int.toNat_natCast]
theorem tj(mb:Nat)(M:MemS)(k:Nat)(T F:HL)(hM:MemH mb M k T)(hT:∀x∈T,x∈F):Sp Tryz.prog 56 #[vP mb 0] (ap [] []) F (λ u H'=>∃q,H'=ap [(q,.rows 1 M.cs.length (aU M.cs) 3 (0,0))] [] /\ u=vS q 0 M.cs.length M.cs.length):=by
 have hl:=hM.len;refine aat Tryz.func56 rfl mn (A:=[]) (Ts:=[]) rfl λ w0=>?_;refine ae 8 [] λ _=>aah (BT hM (λ x hx=>aav _ (hT x hx)))<|aj 8 [.mk M.cs.length M.cs.length] [(M.cs.length:Int)=((M.cs.length:Nat):Int) /\ (M.cs.length:Int)=((M.cs.length:Nat):Int) /\ M.cs.length <= M.cs.length /\ 8*M.cs.length <= 140737488355328 /\ 1=1 /\ M.cs.length <= 9223372036854775807] λ n1=>aah (BT hM (λ x hx=>aav _ (hT x hx)))<|ae 4 [] λ _=>RN.bv 0 (congrArg (λ v_=>(.rows 1 M.cs.length v_ 3 (0,0):Blk)) (show (uv [vI 0])=(aU (vY M.cs 0)) from (by rw[xh M.cs])))<|aan (σ:=Nat) (λ i=>⟨[(0,vP mb 0),(3,vS (n1+0) 0 M.cs.length M.cs.length),(9,vI (M.cs.length:Int)),(10,vI (i:Int))],[((n1+0),.rows 1 M.cs.length (aU (vY M.cs i)) 3 (0,0))],[],i <= M.cs.length,M.cs.length-i⟩) 0 [0] [] (aa9 _) ?_;rintro i Vl RF;refine ae 6 [] λ _=>aal ((i:Int)<(M.cs.length:Int)) 11 (λ h4=>?_) λ h4=>?_
 ·refine ae 16 [] λ _=>aah (ay (i:Int) hM (λ x hx=>aav _ (hT x hx)))<|aj 9 [.ix i,.row 0 i 0,.nw] [bx ((i:Int)+1),(0+i*1)=i*1+0 /\ i<M.cs.length,(i:Int)=((i:Nat):Int) /\ i<M.cs.length] λ _=>RN.bv 0 (congrArg (λ v_=>(.rows 1 M.cs.length v_ 3 (0,0):Blk)) (show (dD (aU (vY M.cs i)) i 0 (vI (M.get (i:Int))))=(aU (vY M.cs (i+1))) from (by rw[<- xj (cs:=M.cs) (i:=i) (by omega)];rw[KA (by omega)]))) ?_;refine RF (i+1) [0] [] ?_
  try dsimp only
  exact⟨by omega,by omega⟩
 ·refine ae 12 [] λ _=>aap [] [0] [] (v:=vS (n1+0) 0 M.cs.length M.cs.length) (H':=[((n1+0),.rows 1 M.cs.length (aU (vY M.cs i)) 3 (0,0))]) ?_;have ei:i=M.cs.length:=by omega
  subst ei;exact⟨_,by rw[BS];rfl,rfl⟩
theorem KB(q:Nat)(cs:List Int)(k cap:Nat)(F:HL)(hq:(q,.rows 1 cs.length (aU cs) 3 (0,0))∈F)(hc:cs.length <= 1000000)(hk:k <= 100000000)(hcap:cs.length <= cap):Sp Tryz.prog 87 #[vS q 0 cs.length cap] [] F (λ u H'=>∃x:Nat × HL,H'=ap [] [x.2] /\ (u=vP x.1 0 /\ MemH x.1 ⟨cs,[],0⟩ k x.2)):=by
 refine aat Tryz.func87 rfl (mc hq mn) (A:=[]) (Ts:=[]) rfl λ w0=>?_;refine aj 24 [.mk cs.length cs.length] [(cs.length:Int)=((cs.length:Nat):Int) /\ (cs.length:Int)=((cs.length:Nat):Int) /\ cs.length <= cs.length /\ 8*cs.length <= 140737488355328 /\ 1=1 /\ cs.length <= 9223372036854775807] λ n1=>RN.bv 1 (congrArg (λ v_=>(.rows 1 cs.length v_ 3 (0,0):Blk)) (show (uv [vI 0])=(aU (vY cs 0)) from (by rw[xh cs])))<|aan (σ:=Nat) (λ i=>⟨[(0,vS q 0 cs.length cap),(3,vP (n1+1) 0),(11,vI (cs.length:Int)),(12,vI (i:Int))],[((n1+1),.lit [vS (n1+0) 0 cs.length cs.length,.slice none 0 0,vI 0] 162 (0,0)),((n1+0),.rows 1 cs.length (aU (vY cs i)) 3 (0,0))],[],i <= cs.length,cs.length-i⟩) 0 [0,1] [] (aa9 _) ?_;rintro i Vl RF;refine ae 6 [] λ _=>aal ((i:Int)<(cs.length:Int)) 13 (λ h4=>?_) λ h4=>?_
 ·refine ae 11 [] λ _=>aak [10] []<|aD [] [0,4,5,6,1,7,2,8,3,9] [.ix i,.rorow 0 i 0,.own 0,.ix i] [(i:Int)=((i:Nat):Int) /\ i<cs.length,(0+i*1)=i*1+0 /\ i<cs.length,(i:Int)=((i:Nat):Int) /\ i<cs.length]<|aae 10 (fS [] [.row 1 i 0] [(0+i*1)=i*1+0 /\ i<cs.length] λ _=>?_);refine aad<|aj 6 [.nw] [bx ((i:Int)+1)] λ _=>RN.bv 1 (congrArg (λ v_=>(.rows 1 cs.length v_ 3 (0,0):Blk)) (show (dD (aU (vY cs i)) i 0 (vI (cs.getD i 0)))=(aU (vY cs (i+1))) from (by rw[<- xj (cs:=cs) (i:=i) (by omega)]))) ?_;refine RF (i+1) [0,1] [] ?_
  try dsimp only
  exact⟨by omega,by omega⟩
 ·refine ae 12 [] λ _=>aap [] [0,1] [] (v:=vP (n1+1) 0) (H':=[((n1+1),.lit [vS (n1+0) 0 cs.length cs.length,.slice none 0 0,vI 0] 162 (0,0)),((n1+0),.rows 1 cs.length (aU (vY cs i)) 3 (0,0))]) ?_;have ei:i=cs.length:=by omega
  subst ei;rw[BS];have hmm:=MemH.mk (mb:=(n1+1)) (M:=⟨cs,[],0⟩) (k:=k) (n1+0) none 0 [] (aas _ _) hc (show ([]:List (Int × Int)).length+k <= 100000000 by simpa using hk);exact⟨((n1+1),_),rfl,rfl,hmm⟩
def aq(n RK:Int):Int:=(if n<0 then bd (0-bd (n+1)) else n).tmod RK
theorem fJ(n:Int)(RK:Int)(h0:RK≠0)(F:HL):Sp Tryz.prog 11 #[vI n,vI RK] [] F (λ u H'=>u=vI (aq n RK) /\ H'=[]):=by
 refine aat Tryz.func11 rfl mn (A:=[]) (Ts:=[]) rfl λ w0=>?_;refine ae 12 [] λ _=>aal (n<0) 6 (λ h1=>?_) λ h1=>?_
 ·refine qt 16 [.gen,.dv] (λ _=>[RK≠0]) (λ _=>(ac h0 an)) λ _=>aap [] [] [] (v:=vI ((i64.wrap (0-(i64.wrap (n+1)))).tmod RK)) (H':=[]) ?_;exact⟨by unfold aq;simp[*],rfl⟩
 ·refine qt 11 [.dv] (λ _=>[RK≠0]) (λ _=>(ac h0 an)) λ _=>aap [] [] [] (v:=vI (n.tmod RK)) (H':=[]) ?_;exact⟨by unfold aq;simp[*],rfl⟩
def qL(n:Int):Int:=aq n 1000
def oG(n:Int):Int:=bd (512*bd (1+(bd ((qL n).tdiv 7)).tmod 5))
def sm(r:Int):List V2:=[⟨bd (0-r),bd (0-r)⟩,⟨r,bd (0-r)⟩,⟨r,r⟩,⟨bd (0-r),r⟩]
def xk(r:Int):List V2:=[⟨bd (0-r),bd (0-r)⟩,⟨r,bd (0-r)⟩,⟨0,r⟩]
def xm(r:Int):List V2:=[⟨bd (-2*r),-300⟩,⟨bd (2*r),-300⟩,⟨bd (2*r),300⟩,⟨bd (-2*r),300⟩]
def cS(n:Int):Int × List V2:=if (qL n).tmod 7=0 then (oG n,[]) else if (qL n).tmod 7=1 then (oG n,[]) else if (qL n).tmod 7=2 then (oG n,[]) else if (qL n).tmod 7=3 then (0,sm (oG n)) else if (qL n).tmod 7=4 then (0,sm (oG n)) else if (qL n).tmod 7=5 then (0,xk (oG n)) else (0,xm (oG n))
def ShH(s:Shp)(T:HL):Prop:=∀F,(∀x∈T,x∈F) -> ShIn F s
theorem ShH.circle(r:Int)(A:Option Addr)(cap:Nat):ShH ⟨r,[],A,cap⟩ []:=λ F _=>.circle r A cap
theorem ShH.poly(r:Int)(l:List V2)(b cap:Nat)(h3:3 <= l.length)(h4:l.length <= cap)(h5:l.length <= 1000000):ShH ⟨r,l,some ⟨b,0,none⟩,cap⟩ [(b,.rows 2 cap (jL l) 29 (0,0))]:=λ F h=>.poly r l b cap (h _ (by simp)) h3 h4 h5
theorem xn(n:Int)(F:HL):Sp Tryz.prog 40 #[vI n] [] F (λ u H'=>∃x:Option Addr × Nat × HL,H'=ap [] [x.2.2] /\ (u=On ⟨(cS n).1,(cS n).2,x.1,x.2.1⟩ /\ ShH ⟨(cS n).1,(cS n).2,x.1,x.2.1⟩ x.2.2)):=by
 refine aat Tryz.func40 rfl mn (A:=[]) (Ts:=[]) rfl λ w0=>?_;refine ae 8 [] λ n1=>aah (fJ n 1000 (by decide) _)<|ae 28 [] λ _=>aal ((qL n).tmod 7=0) 14 (λ h2=>?_) λ h2=>?_
 ·refine ae 11 (aab 2) λ _=>aap (aab 2) [] [] (v:=.agg #[vI (i64.wrap (512*(i64.wrap (1+((i64.wrap ((qL n).tdiv 7)).tmod 5))))),.slice none 0 0]) (H':=[]) ?_;have e:cS n=(oG n,[]):=by simp only[cS,if_pos h2]
  rw[e];exact⟨(none,0,[]),rfl,rfl,ShH.circle _ _ _⟩
 ·refine ae 7 [] λ _=>aal ((qL n).tmod 7=1) 14 (λ h3=>?_) λ h3=>?_
  ·refine ae 11 (aab 2) λ _=>aap (aab 2) [] [] (v:=.agg #[vI (i64.wrap (512*(i64.wrap (1+((i64.wrap ((qL n).tdiv 7)).tmod 5))))),.slice none 0 0]) (H':=[]) ?_;have e:cS n=(oG n,[]):=by simp only[cS,if_neg h2,if_pos h3]
   rw[e];exact⟨(none,0,[]),rfl,rfl,ShH.circle _ _ _⟩
  ·refine ae 6 [] λ _=>aal ((qL n).tmod 7=2) 14 (λ h4=>?_) λ h4=>?_
   ·refine ae 8 (aab 2) λ _=>aap (aab 2) [] [] (v:=.agg #[vI (i64.wrap (512*(i64.wrap (1+((i64.wrap ((qL n).tdiv 7)).tmod 5))))),.slice none 0 0]) (H':=[]) ?_;have e:cS n=(oG n,[]):=by simp only[cS,if_neg h2,if_neg h3,if_pos h4]
    rw[e];exact⟨(none,0,[]),rfl,rfl,ShH.circle _ _ _⟩
   ·refine ae 8 [] λ _=>aal ((qL n).tmod 7=3) 20 (λ h5=>?_) λ h5=>?_
    ·refine ae 27 [.own 1,.own 1] λ n6=>aaj 0 (.rows 2 4 (jL (sm (oG n))) 29 (0,0))<|aap [.own 1,.own 1] [0] [] (v:=.agg #[vI 0,vS (n6+0) 0 4 4]) (H':=[((n6+0),.rows 2 4 (jL (sm (oG n))) 29 (0,0))]) ?_;have e:cS n=(0,sm (oG n)):=by simp only[cS,if_neg h2,if_neg h3,if_neg h4,if_pos h5]
     rw[e];exact⟨(some ⟨(n6+0),0,none⟩,4,_),rfl,rfl,ShH.poly 0 (sm (oG n)) (n6+0) 4 (aaN rfl) (aaN rfl) (aaN rfl)⟩
    ·refine ae 6 [] λ _=>aal ((qL n).tmod 7=4) 20 (λ h7=>?_) λ h7=>?_
     ·refine ae 24 [.own 1,.own 1] λ n8=>aaj 0 (.rows 2 4 (jL (sm (oG n))) 29 (0,0))<|aap [.own 1,.own 1] [0] [] (v:=.agg #[vI 0,vS (n8+0) 0 4 4]) (H':=[((n8+0),.rows 2 4 (jL (sm (oG n))) 29 (0,0))]) ?_;have e:cS n=(0,sm (oG n)):=by simp only[cS,if_neg h2,if_neg h3,if_neg h4,if_neg h5,if_pos h7]
      rw[e];exact⟨(some ⟨(n8+0),0,none⟩,4,_),rfl,rfl,ShH.poly 0 (sm (oG n)) (n8+0) 4 (aaN rfl) (aaN rfl) (aaN rfl)⟩
     ·refine ae 7 [] λ _=>aal ((qL n).tmod 7=5) 41 (λ h9=>?_) λ h9=>?_
      ·refine ae 19 [.own 1,.own 1] λ SZ=>aaj 0 (.rows 2 3 (jL (xk (oG n))) 29 (0,0))<|aap [.own 1,.own 1] [0] [] (v:=.agg #[vI 0,vS (SZ+0) 0 3 3]) (H':=[((SZ+0),.rows 2 3 (jL (xk (oG n))) 29 (0,0))]) ?_;have e:cS n=(0,xk (oG n)):=by simp only[cS,if_neg h2,if_neg h3,if_neg h4,if_neg h5,if_neg h7,if_pos h9]
       rw[e];exact⟨(some ⟨(SZ+0),0,none⟩,3,_),rfl,rfl,ShH.poly 0 (xk (oG n)) (SZ+0) 3 (aaN rfl) (aaN rfl) (aaN rfl)⟩
      ·refine ae 23 [.own 1,.own 1] λ n11=>aaj 0 (.rows 2 4 (jL (xm (oG n))) 29 (0,0))<|aap [.own 1,.own 1] [0] [] (v:=.agg #[vI 0,vS (n11+0) 0 4 4]) (H':=[((n11+0),.rows 2 4 (jL (xm (oG n))) 29 (0,0))]) ?_;have e:cS n=(0,xm (oG n)):=by simp only[cS,if_neg h2,if_neg h3,if_neg h4,if_neg h5,if_neg h7,if_neg h9]
       rw[e];exact⟨(some ⟨(n11+0),0,none⟩,4,_),rfl,rfl,ShH.poly 0 (xm (oG n)) (n11+0) 4 (aaN rfl) (aaN rfl) (aaN rfl)⟩
theorem oH{S:Setup}(h:SetN S){i:Nat}(hi:i<S.nb):0 <= af S i /\ af S i+8 <= sizeOf S /\ sizeOf S <= 20000000:=by
 have:=h.pl;have:=h.nb;unfold af sizeOf;rw[if_neg (by omega),if_neg (by omega)];omega
theorem D5{S:Setup}(h:SetN S):48 <= sizeOf S /\ sizeOf S <= 20000000:=by
 have:=h.pl;have:=h.nb;unfold sizeOf;omega
def br(S:Setup):Nat -> List Int
 | 0=>List.replicate (sizeOf S).toNat 0
 | i+1=>((((((br S i).set (af S i).toNat (S.body i).mot.px).set (af S i+1).toNat (S.body i).mot.py).set (af S i+2).toNat (S.body i).mot.vx).set (af S i+3).toNat (S.body i).mot.vy).set (af S i+4).toNat (S.body i).a).set (af S i+5).toNat (S.body i).b
theorem jP(S:Setup):∀i,(br S i).length=(sizeOf S).toNat
 | 0=>by simp[br]
 | i+1=>by simp[br,jP S i]
theorem D6{S:Setup}(h:SetN S){i:Nat}(hi:i<S.nb):dD (dD (dD (dD (dD (dD (aU (br S i)) (af S i).toNat 0 (vI (S.body i).mot.px)) (af S i+1).toNat 0 (vI (S.body i).mot.py)) (af S i+2).toNat 0 (vI (S.body i).mot.vx)) (af S i+3).toNat 0 (vI (S.body i).mot.vy)) (af S i+4).toNat 0 (vI (S.body i).a)) (af S i+5).toNat 0 (vI (S.body i).b)=aU (br S (i+1)):=by
 have:=oH h hi;rw[fT,fT,fT,fT,fT,fT,br] <;> (simp only[List.length_set,jP];omega)
def z8:Enc Int:=⟨1,λ p k=>match k with|0=>vI p|_=>vI p,0⟩
noncomputable def L7:TypeInfo:=match Tryz.prog.info? 3 with | some i=>i | none=>⟨.bool,"",0,0,false,0,0,none,false,#[]⟩
noncomputable def L8:Value:=match L7.zero with|some z=>z|none=>.bool false
theorem G4:EncOk z8 Tryz.prog 3 L7 L8 where
 info:=by kernel_rfl
 zero:=by kernel_rfl
 size:=by kernel_rfl
 zsize:=by kernel_rfl
 zcell:=λ k hk=>by
  have h:∀k<1,L8.cells[k]?=some (z8.cell z8.dflt k):=by intro k hk;(iterate 1 (rcases k with _|k;· kernel_rfl));omega
  exact h k hk
 one:=λ x k=>by unfold z8;dsimp only;split <;> rfl
 bytes:=aaN (by kernel_rfl)
abbrev mh(n:Int):Prop:=-9223372036854775808 <= n /\ n <= 9223372036854775807
theorem b8{n:Int}(hn:mh n)(RK:Int)(h:0<RK):0 <= aq n RK /\ aq n RK<RK:=by
 unfold aq;have hx:0 <= (if n<0 then bd (0-bd (n+1)) else n):=by
  split
  ·rw[dh (x:=n+1) (by omega),dh (by omega)];omega
  ·omega
 exact⟨Int.tmod_nonneg _ hx,Int.tmod_lt_of_pos _ h⟩
inductive ArgL(F:HL):Option Addr -> Nat -> List Int -> Prop
 | zero (A:Option Addr):ArgL F A 0 []
 | cells (q o N:Nat) (g:Nat -> Nat -> Value) (ty:TypeId) (fz:Nat × Nat) (xs:List Int) (hq:(q,.rows 1 N g ty fz)∈F) (ho:o+xs.length <= N) (hx:∀k,k<xs.length -> g (o+k) 0=vI (xs.getD k 0)) (hb:∀k,k<xs.length -> mh (xs.getD k 0)):ArgL F (some ⟨q,o,none⟩) xs.length xs
theorem ArgL.up{F X:HL}{A:Option Addr}{n:Nat}{xs:List Int}(h:ArgL F A n xs):ArgL (X++F) A n xs:=by
 cases h with
 | zero=>exact .zero _
 | cells q o N g ty fz xs hq ho hx hb=>exact .cells q o N g ty fz xs (aav _ hq) ho hx hb
theorem ArgL.len{F:HL}{A:Option Addr}{n:Nat}{xs:List Int}(h:ArgL F A n xs):xs.length=n:=by
 cases h <;> rfl
theorem ArgL.at{F:HL}{A:Option Addr}{n:Nat}{xs:List Int}(h:ArgL F A n xs){k:Nat}(hk:k<n):∃q o N g ty fz,A=some ⟨q,o,none⟩ /\ (q,.rows 1 N g ty fz)∈F /\ o+k<N /\ g (o+k) 0=vI (xs.getD k 0) /\ mh (xs.getD k 0):=by
 cases h with
 | zero=>omega
 | cells q o N g ty fz xs hq ho hx hb=>exact⟨q,o,N,g,ty,fz,rfl,hq,by omega,hx k hk,hb k hk⟩
def kv(xs:List Int)(i:Nat):Int:=if i<xs.length then aq (xs.getD i 0) 1000000 else 0
theorem im{F:HL}{A:Option Addr}{n:Nat}{xs:List Int}(h:ArgL F A n xs)(i:Nat):0 <= kv xs i /\ kv xs i<1000000:=by
 unfold kv;split
 ·next hi =>
  rw[h.len] at hi;obtain⟨_,_,_,_,_,_,_,_,_,_,hr⟩:=h.at hi;exact b8 hr 1000000 (by decide)
 ·omega
def ks(xs:List Int)(n:Nat):List Int:=(List.range n).map (kv xs)
theorem mQ(xs:List Int)(n:Nat):(ks xs n).length=n:=by simp[ks]
theorem BU(xs:List Int)(n:Nat):ks xs (n+1)=ks xs n++[kv xs n]:=by simp[ks,List.range_succ]
theorem Nj{xs:List Int}{n i:Nat}(h:i<n):(ks xs n).getD i 0=kv xs i:=by simp[ks,h]
structure Dr where (a b:Int)
def mj:Enc V2:=⟨2,λ p k=>match k with|0=>vI p.x|_=>vI p.y,⟨0,0⟩⟩
noncomputable def L9:TypeInfo:=match Tryz.prog.info? 29 with | some i=>i | none=>⟨.bool,"",0,0,false,0,0,none,false,#[]⟩
noncomputable def Ma:Value:=match L9.zero with|some z=>z|none=>.bool false
theorem G5:EncOk mj Tryz.prog 29 L9 Ma where
 info:=by kernel_rfl
 zero:=by kernel_rfl
 size:=by kernel_rfl
 zsize:=by kernel_rfl
 zcell:=λ k hk=>by
  have h:∀k<2,Ma.cells[k]?=some (mj.cell mj.dflt k):=by intro k hk;(iterate 2 (rcases k with _|k;· kernel_rfl));omega
  exact h k hk
 one:=λ x k=>by unfold mj;dsimp only;split <;> rfl
 bytes:=aaN (by kernel_rfl)
def xo:Enc Bx:=⟨4,λ p k=>match k with|0=>vI p.x0|1=>vI p.y0|2=>vI p.x1|_=>vI p.y1,⟨0,0,0,0⟩⟩
noncomputable def Ph:TypeInfo:=match Tryz.prog.info? 25 with | some i=>i | none=>⟨.bool,"",0,0,false,0,0,none,false,#[]⟩
noncomputable def Pi:Value:=match Ph.zero with|some z=>z|none=>.bool false
theorem Mb:EncOk xo Tryz.prog 25 Ph Pi where
 info:=by kernel_rfl
 zero:=by kernel_rfl
 size:=by kernel_rfl
 zsize:=by kernel_rfl
 zcell:=λ k hk=>by
  have h:∀k<4,Pi.cells[k]?=some (xo.cell xo.dflt k):=by intro k hk;(iterate 4 (rcases k with _|k;· kernel_rfl));omega
  exact h k hk
 one:=λ x k=>by unfold xo;dsimp only;split <;> rfl
 bytes:=aaN (by kernel_rfl)
def mS:Enc Dr:=⟨2,λ p k=>match k with|0=>vI p.a|_=>vI p.b,⟨0,0⟩⟩
noncomputable def Pj:TypeInfo:=match Tryz.prog.info? 81 with | some i=>i | none=>⟨.bool,"",0,0,false,0,0,none,false,#[]⟩
noncomputable def Pk:Value:=match Pj.zero with|some z=>z|none=>.bool false
theorem Mc:EncOk mS Tryz.prog 81 Pj Pk where
 info:=by kernel_rfl
 zero:=by kernel_rfl
 size:=by kernel_rfl
 zsize:=by kernel_rfl
 zcell:=λ k hk=>by
  have h:∀k<2,Pk.cells[k]?=some (mS.cell mS.dflt k):=by intro k hk;(iterate 2 (rcases k with _|k;· kernel_rfl));omega
  exact h k hk
 one:=λ x k=>by unfold mS;dsimp only;split <;> rfl
 bytes:=aaN (by kernel_rfl)
structure MapIn(F:HL)(S:Setup)(rs:List Bx)(ds:List Dr):Prop where
 rooms:RowL xo 25 F S.rA S.rn rs
 doors:RowL mS 81 F S.dA S.dn ds
theorem MapIn.up{F X:HL}{S:Setup}{rs:List Bx}{ds:List Dr}(h:MapIn F S rs ds):MapIn (X++F) S rs ds:=⟨h.rooms.up,h.doors.up⟩
abbrev qM:List Bx:=[⟨-12000,-9000,-1,9000⟩,⟨0,0,12000,9000⟩,⟨0,-9000,12000,-1⟩]
abbrev kj(i:Nat):List Dr:=match i with|0=>[]|1=>[⟨0,1⟩]|_=>[⟨0,2⟩,⟨1,2⟩]
def ClS{α:Type}(e:Enc α)(T:TypeId)(xs:List α)(A':Option Addr)(c':Nat)(Hl:HL):Prop:=∃A0,NewS e T xs A0 A' c' Hl
theorem ClS.rowL{α:Type}{e:Enc α}{T:TypeId}{xs:List α}{A':Option Addr}{c':Nat}{Hl:HL}(h:ClS e T xs A' c' Hl){F:HL}(hF:∀x∈Hl,x∈F):RowL e T F A' xs.length xs:=h.elim λ _ h=>h.rowL hF
theorem ClS.nil{α:Type}(e:Enc α)(T:TypeId)(A:Option Addr):ClS e T [] A 0 []:=⟨A,.inl ⟨rfl,rfl,rfl,rfl⟩⟩
def KC(xs:List Int):Int:=1+kv xs 0 % 3
def qN(xs:List Int):Int:=KC xs+kv xs 3 / 3 % 3
def bN(xs:List Int)(i:Nat):Int:=kv xs (4+2*i)
def bM(xs:List Int)(i:Nat):Int:=kv xs (5+2*i)
def tn(xs:List Int)(i:Nat)(A:Option Addr)(c:Nat):Bod:=⟨⟨(cS (bN xs i)).1,(cS (bN xs i)).2,A,c⟩,⟨((((bN xs i) / 1000) % 13)-6)*900,((((bM xs i) / 50) % 11)-5)*800,((((bM xs i) / 550) % 9)-4)*300,((((bN xs i) / 13000) % 9)-4)*300,([1024,1024,512,2048,0]:List Int).getD (((bM xs i) / 5000) % 5).toNat 0⟩,(bM xs i) % 50,(bN xs i) % 7⟩
def xp(a b c:Nat)(i:Nat):Option Addr:=match i with|0=>some ⟨a,0,none⟩|1=>some ⟨b,0,none⟩|_=>some ⟨c,0,none⟩
def jQ(i:Nat):Nat:=match i with|0=>0|1=>1|_=>2
def BV(a b c:Nat):Nat -> Nat -> Value:=λ i _=>.slice (xp a b c i) (jQ i) (jQ i)
theorem uX{F:HL}{A:Option Addr}{n:Nat}{xs:List Int}(h:ArgL F A n xs):1 <= KC xs /\ KC xs <= 3:=by
 have:=im h 0;unfold KC;omega
theorem qi{F:HL}{A:Option Addr}{n:Nat}{xs:List Int}(h:ArgL F A n xs):1 <= qN xs /\ qN xs <= 5 /\ KC xs <= qN xs:=by
 have:=im h 0;have:=im h 3;unfold qN KC;omega
theorem G6{xs rest:List Int}{n i:Nat}(h:i<n):(ks xs n++rest).getD i 0=kv xs i:=by
 rw[aaJ,abD (by rw[mQ];exact h),<- aaJ,Nj h]
theorem qO{α:Type}{l r:List α}{i:Nat}{d:α}(h:i<l.length):(l++r).getD i d=l.getD i d:=by
 rw[aaJ,abD h,<- aaJ]
theorem tp{α:Type}{l:List α}{x d:α}:(l++[x]).getD l.length d=x:=by simp
theorem ShH.left{s:Shp}{T X:HL}(h:ShH s T):ShH s (T++X):=λ F hF=>h F λ x hx=>hF x (aaw _ hx)
theorem ShH.right{s:Shp}{T X:HL}(h:ShH s X):ShH s (T++X):=λ F hF=>h F λ x hx=>hF x (aav _ hx)
theorem Ac{F:HL}{a b c:Nat}(hb:(b,.rows 2 1 (aQ mS (kj 1)) 81 (0,0))∈F)(hc:(c,.rows 2 2 (aQ mS (kj 2)) 81 (0,0))∈F):∀i:Nat,RowL mS 81 F (xp a b c i) (jQ i) (kj i)
 | 0=>.zero _
 | 1=>RowL.whole (xs:=kj 1) hb (aa0 _)
 | _+2=>RowL.whole (xs:=kj 2) hc (aa0 _)
structure SetG(xs:List Int)(S:Setup)(T:HL):Prop where
 pl:S.players=KC xs
 nb:(S.nb:Int)=qN xs
 bo:S.bo=0
 cap:S.nb <= S.bc
 room:S.bo+S.nb <= S.bR
 nums:S.box=⟨-12000,-9000,12000,9000⟩ /\ S.fog=4000+(kv xs 1 % 9)*1000 /\ S.g=⟨0,(-((kv xs 2 / 36) % 3))*40⟩ /\ S.push=((kv xs 1 / 9) % 5)*100 /\ S.drag=(kv xs 2 % 4)*100 /\ S.rest=((kv xs 2 / 4) % 3)*512 /\ S.rounds=1+(kv xs 2 / 12) % 3 /\ S.fuel=60
 bod:∀j,j<S.nb -> ∃A c,S.body j=tn xs j A c
 sin:∀F,(S.bb,.rows 9 S.bR (mf S.bods) 90 (0,0))∈F -> (∀x∈T,x∈F) -> SetIn F S
 maps:(S.rn=3 /\ S.dn=jQ (kv xs 3 % 3).toNat) /\ ∀F,(∀x∈T,x∈F) -> MapIn F S qM (kj (kv xs 3 % 3).toNat)
theorem D7(A:Option Addr)(n cap:Nat)(xs:List Int)(F:HL)(hl:ArgL F A n xs)(hn:n <= 9223372036854775807):Sp Tryz.prog 10 #[.slice A n cap] (ap [] []) F (λ u H'=>∃x:Setup × HL,H'=ap [(x.1.bb,.rows 9 x.1.bR (mf x.1.bods) 90 (0,0))] [x.2] /\ (u=Setup.v x.1 /\ SetG xs x.1 x.2)):=by
 refine aat Tryz.func10 rfl mn (A:=[]) (Ts:=[]) rfl λ w0=>?_;refine ae 17 [] λ n1=>aao<|aan (σ:=Nat × Option Addr × Nat × HL) (λ ⟨i,A_,c_,T_⟩=>⟨[(0,.slice A n cap),(2,vP (n1+0) 0),(3,.slice A_ i c_),(4,vI (i:Int))],[((n1+0),.lit [vI 0,.slice none 0 0,vI 0,vI 0,vI 0,vI 0,.slice none 0 0,.slice none 0 0,vI 0,vI 0,vI 0,vI 0,vI 0,vI 0,vI 0,vI 0] 31 (0,0))],[T_],i <= 24 /\ SlIs z8 3 (ks xs i) A_ c_ T_ /\ bB A_,24-i⟩) (0,none,0,[]) [0] [0] (⟨aa9 _,aas _ _,trivial⟩) ?_;rintro⟨i,A_,c_,T_⟩ ⟨VS,RA,UT⟩ RF;refine ae 7 [] λ _=>aal ((i:Int)<24) 12 (λ h4=>?_) λ h4=>?_
 ·refine ae 19 [] λ _=>aal ((i:Int)<(n:Int)) 18 (λ h5=>?_) λ h5=>?_
  ·refine ae 4 [] λ _=>?_;obtain⟨qx6,UD,Nx6,gx6,adt,acp,Wq,VK,abc,VV,Yx⟩:=hl.at (k:=i) (by omega);refine aN 19 (congrArg (λ v_=>(.slice v_ n cap:Value)) Wq)<|RN.ro (λ _=>(mc VK mn))<|aj 2 [.ix i,.rorow 0 (UD+i) 0] [(UD+i*1)=(UD+i)*1+0 /\ (UD+i)<Nx6,(i:Int)=((i:Nat):Int) /\ i<n] λ _=>aN 22 (congrArg (λ v_=>(v_:Value)) VV)<|aah (fJ (xs.getD i 0) 1000000 (by decide) _) ?_;have hA7:=b8 (n:=xs.getD i 0) Yx 1000000 (by decide);refine ae 7 [] λ n8=>iU G4 (ks xs i) [aq (xs.getD i 0) 1000000] 0 0 (mQ xs i).symm RA (by rw[mQ];show i+1 <= 100000000;omega) ?_;rintro A9 X6 Rm ⟨Yw,aaG⟩;refine aj 9 [.nw] [bx ((i:Int)+1)] λ _=>?_;have VA:=aaG UT;refine RF (i+1,A9,X6,Rm) [1] [0] ?_
   try dsimp only
   refine⟨⟨by omega,?_,VA⟩,by omega⟩;rw[BU,show kv xs i=_ from by unfold kv;rw[if_pos (by rw[hl.len];omega)]];exact Yw
  ·refine ae 7 [] λ ZH=>iU G4 (ks xs i) [0] 0 0 (mQ xs i).symm RA (by rw[mQ];show i+1 <= 100000000;omega) ?_;rintro A15 c16 Sx ⟨VE,Ym⟩;refine aj 9 [.nw] [bx ((i:Int)+1)] λ _=>?_;have VA:=Ym UT;refine RF (i+1,A15,c16,Sx) [1] [0] ?_
   try dsimp only
   refine⟨⟨by omega,?_,VA⟩,by omega⟩;rw[BU,show kv xs i=_ from by unfold kv;rw[if_neg (by rw[hl.len];omega)]];exact VE
 ·refine ae 7 [] λ _=>?_;have ei:i=24:=by omega
  subst ei;obtain⟨kb,rest,rfl,rfl,TQ⟩:=RA.open0 UT (by decide) (by rw[mQ];decide);have hcap:24 <= c_:=by rw[mQ] at TQ;exact TQ
  refine sT 0 (x:=(kb,.rows 1 c_ (aQ z8 (ks xs 24++rest)) 3 (0,0))) ?_;have YO:=im hl 0;have SA:=im hl 1;have TZ:=im hl 2;have hk3:=im hl 3;have hse:qN xs=1+kv xs 0 % 3+kv xs 3 / 3 % 3:=rfl;have hsc:=qi hl;have UG:=uX hl;refine aak [37] []<|aD [] [0,5,6,12,18,23,29,1,7,13,19,24,30,2,8,14,20,25,31,3,9,15,21,26,32,4,10,16,22,27,33,11,17,28,34,35] [.row 0 0 0,.row 0 1 0,.row 0 1 0,.row 0 2 0,.row 0 2 0,.row 0 2 0,.nw,.nw,.nw,.nw,.nw,.nw,.nw,.nw,.nw,.nw,.nw,.nw,.nw,.nw,.nw,.nw] [bx (1+(((kv xs 2) / 12) % 3)),bx ((((kv xs 2) / 4) % 3)*512),bx ((((kv xs 1) / 9) % 5)*100),bx (4000+(((kv xs 1) % 9)*1000)),0 <= (kv xs 2) / 12 /\ (0:Int)<3 /\ (kv xs 2) / 12 <= 9223372036854775807,0 <= (kv xs 2) / 4 /\ (0:Int)<3 /\ (kv xs 2) / 4 <= 9223372036854775807,bx (((kv xs 2) % 4)*100),0 <= (kv xs 1) / 9 /\ (0:Int)<5 /\ (kv xs 1) / 9 <= 9223372036854775807,bx (((kv xs 1) % 9)*1000),bx (1+((kv xs 0) % 3)),0 <= kv xs 2 /\ (0:Int)<12 /\ kv xs 2 <= 9223372036854775807,0 <= kv xs 2 /\ (0:Int)<4 /\ kv xs 2 <= 9223372036854775807,0 <= kv xs 2 /\ (0:Int)<4 /\ kv xs 2 <= 9223372036854775807,0 <= kv xs 1 /\ (0:Int)<9 /\ kv xs 1 <= 9223372036854775807,0 <= kv xs 1 /\ (0:Int)<9 /\ kv xs 1 <= 9223372036854775807,0 <= kv xs 0 /\ (0:Int)<3 /\ kv xs 0 <= 9223372036854775807,2=2*1+0 /\ 2<c_,2=2*1+0 /\ 2<c_,2=2*1+0 /\ 2<c_,1=1*1+0 /\ 1<c_,1=1*1+0 /\ 1<c_,0=0*1+0 /\ 0<c_]<|aae 36 (aag [] [] λ UE=>?_);refine aae 37 (aag [] (ow 0 16) λ _=>?_);refine aad<|aj 38 [.row 1 2 0,.nw,.nw,.nw,.nw,.own 0,.own 0,.own 1,.row 6 3 0,.nw] [0 <= kv xs 3 /\ (0:Int)<3 /\ kv xs 3 <= 9223372036854775807,3=3*1+0 /\ 3<c_,bx ((-(((kv xs 2) / 36) % 3))*40),-9223372036854775807 <= ((kv xs 2) / 36) % 3 /\ ((kv xs 2) / 36) % 3 <= 9223372036854775808,0 <= (kv xs 2) / 36 /\ (0:Int)<3 /\ (kv xs 2) / 36 <= 9223372036854775807,0 <= kv xs 2 /\ (0:Int)<36 /\ kv xs 2 <= 9223372036854775807,2=2*1+0 /\ 2<c_] λ Rl=>aaj 0 (.rows 1 3 (BV (Rl+1) (Rl+2) (Rl+3)) 27 (0,0))<|aj 13 [.ix (((kv xs 3) % 3).toNat),.row 0 (((kv xs 3) % 3).toNat) 0,.own 5] [(0+(((kv xs 3) % 3).toNat)*1)=(((kv xs 3) % 3).toNat)*1+0 /\ (((kv xs 3) % 3).toNat)<3,(kv xs 3) % 3=((((kv xs 3) % 3).toNat:Nat):Int) /\ ((kv xs 3) % 3).toNat<3] λ _=>aao<|aao<|aan (σ:=Nat × List Bod × Option Addr × Nat × HL × HL) (λ ⟨j,bods,B_,d_,V_,U_⟩=>⟨[(2,vP (n1+0) 0),(3,vS kb 0 24 c_),(6,vP (UE+0) 0),(7,vI (j:Int))],[((Rl+4),.rows 1 3 (BV (Rl+1) (Rl+2) (Rl+3)) 27 (0,0)),((Rl+3),.lit [vI 0,vI 2,vI 1,vI 2] 81 (0,0)),((Rl+2),.lit [vI 0,vI 1] 81 (0,0)),((Rl+1),.lit [] 81 (0,0)),((Rl+0),.lit [vI (-12000),vI (-9000),vI (-1),vI 9000,vI 0,vI 0,vI 12000,vI 9000,vI 0,vI (-9000),vI 12000,vI (-1)] 25 (0,0)),((UE+0),.lit [vI (1+((kv xs 0) % 3)),.slice B_ j d_,vI (-12000),vI (-9000),vI 12000,vI 9000,vS (Rl+0) 0 3 3,.slice (xp (Rl+1) (Rl+2) (Rl+3) (((kv xs 3) % 3).toNat)) (jQ (((kv xs 3) % 3).toNat)) (jQ (((kv xs 3) % 3).toNat)),vI (4000+(((kv xs 1) % 9)*1000)),vI 0,vI ((-(((kv xs 2) / 36) % 3))*40),vI ((((kv xs 1) / 9) % 5)*100),vI (((kv xs 2) % 4)*100),vI ((((kv xs 2) / 4) % 3)*512),vI (1+(((kv xs 2) / 12) % 3)),vI 60] 31 (0,0)),(kb,.rows 1 c_ (aQ z8 (ks xs 24++rest)) 3 (0,0)),((n1+0),.lit [vI 0,.slice none 0 0,vI 0,vI 0,vI 0,vI 0,.slice none 0 0,.slice none 0 0,vI 0,vI 0,vI 0,vI 0,vI 0,vI 0,vI 0,vI 0] 31 (0,0))],[V_,U_],(j:Int) <= qN xs /\ bods.length=j /\ (∀t,t<j -> ∃A c,bods.getD t dB=tn xs t A c) /\ (∀t,t<j -> ShH (bods.getD t dB).sh U_) /\ SlIs kT 90 bods B_ d_ V_ /\ bB B_,(qN xs).toNat-j⟩) (0,[],none,0,[],[]) [0,1,2,3,4,5,6,7] [0,1] (⟨by show (0:Int) <= _;omega,rfl,λ t ht=>absurd ht (Nat.not_lt_zero _),λ t ht=>absurd ht (Nat.not_lt_zero _),aas _ _,trivial⟩) ?_;rintro⟨j,bods,B_,d_,V_,U_⟩ ⟨hj_,Ss,ZU,VD,WV,aaE⟩ adF;refine ae 2 [] λ _=>aak [] []<|aD [] [0,1,3,2,4,5,6,7,8,9] [.own 5,.row 6 3 0,.nw,.nw,.nw] [bx ((1+((kv xs 0) % 3))+(((kv xs 3) / 3) % 3)),0 <= (kv xs 3) / 3 /\ (0:Int)<3 /\ (kv xs 3) / 3 <= 9223372036854775807,0 <= kv xs 3 /\ (0:Int)<3 /\ kv xs 3 <= 9223372036854775807,3=3*1+0 /\ 3<c_]<|aad<|ae 1 [] λ _=>aal ((j:Int)<(1+((kv xs 0) % 3))+(((kv xs 3) / 3) % 3)) 101 (λ h24=>?_) λ h24=>?_
  ·refine aj 13 [.nw,.nw,.ix ((4+(2*(j:Int))).toNat),.row 6 ((4+(2*(j:Int))).toNat) 0] [(0+((4+(2*(j:Int))).toNat)*1)=((4+(2*(j:Int))).toNat)*1+0 /\ ((4+(2*(j:Int))).toNat)<c_,4+(2*(j:Int))=(((4+(2*(j:Int))).toNat:Nat):Int) /\ (4+(2*(j:Int))).toNat<24,bx (4+(2*(j:Int))),bx (2*(j:Int))] λ _=>aN 109 (congrArg (λ v_=>(vI v_:Value)) (G6 (xs:=xs) (rest:=rest) (n:=24) (i:=4+2*j) (by omega))) ?_;have hbN:=im hl (4+2*j);rw[show kv xs (4+2*j)=bN xs j from rfl] at hbN;refine aj 11 [.nw,.nw,.ix ((5+(2*(j:Int))).toNat),.row 6 ((5+(2*(j:Int))).toNat) 0] [(0+((5+(2*(j:Int))).toNat)*1)=((5+(2*(j:Int))).toNat)*1+0 /\ ((5+(2*(j:Int))).toNat)<c_,5+(2*(j:Int))=(((5+(2*(j:Int))).toNat:Nat):Int) /\ (5+(2*(j:Int))).toNat<24,bx (5+(2*(j:Int))),bx (2*(j:Int))] λ _=>aN 115 (congrArg (λ v_=>(vI v_:Value)) (G6 (xs:=xs) (rest:=rest) (n:=24) (i:=5+2*j) (by omega))) ?_;have hbM:=im hl (5+2*j);rw[show kv xs (5+2*j)=bM xs j from rfl] at hbM;refine ae 6 [] λ _=>aai (Hp:=[]) (Tp:=[]) [] [] (xn (bN xs j) _) ?_;rintro _ ⟨A25,c26,UC⟩ ⟨rfl,XN⟩;dsimp only at XN;refine aj 37 ([.nw,.nw]++ow 0 9++[.nw,.nw,.nw,.nw,.nw,.nw,.nw,.nw,.nw,.nw,.nw,.nw,.nw,.nw,.nw,.nw,.nw,.nw]) [0 <= (bM xs j) / 5000 /\ (0:Int)<5 /\ (bM xs j) / 5000 <= 9223372036854775807,0 <= bM xs j /\ (0:Int)<5000 /\ bM xs j <= 9223372036854775807,bx (((((bN xs j) / 13000) % 9)-4)*300),bx ((((bN xs j) / 13000) % 9)-4),0 <= (bN xs j) / 13000 /\ (0:Int)<9 /\ (bN xs j) / 13000 <= 9223372036854775807,0 <= bN xs j /\ (0:Int)<13000 /\ bN xs j <= 9223372036854775807,bx (((((bM xs j) / 550) % 9)-4)*300),bx ((((bM xs j) / 550) % 9)-4),0 <= (bM xs j) / 550 /\ (0:Int)<9 /\ (bM xs j) / 550 <= 9223372036854775807,0 <= bM xs j /\ (0:Int)<550 /\ bM xs j <= 9223372036854775807,bx (((((bM xs j) / 50) % 11)-5)*800),bx ((((bM xs j) / 50) % 11)-5),0 <= (bM xs j) / 50 /\ (0:Int)<11 /\ (bM xs j) / 50 <= 9223372036854775807,0 <= bM xs j /\ (0:Int)<50 /\ bM xs j <= 9223372036854775807,bx (((((bN xs j) / 1000) % 13)-6)*900),bx ((((bN xs j) / 1000) % 13)-6),0 <= (bN xs j) / 1000 /\ (0:Int)<13 /\ (bN xs j) / 1000 <= 9223372036854775807,0 <= bN xs j /\ (0:Int)<1000 /\ bN xs j <= 9223372036854775807,0 <= bN xs j /\ (0:Int)<7 /\ bN xs j <= 9223372036854775807,0 <= bM xs j /\ (0:Int)<50 /\ bM xs j <= 9223372036854775807] λ n29=>aaj 0 (.rows 1 5 (aU [1024,1024,512,2048,0]) 3 (0,0))<|aj 12 ([.ix ((((bM xs j) / 5000) % 5).toNat),.row 0 ((((bM xs j) / 5000) % 5).toNat) 0]++ow 1 5++[.own 7]++ow 1 9) [(0+((((bM xs j) / 5000) % 5).toNat)*1)=((((bM xs j) / 5000) % 5).toNat)*1+0 /\ ((((bM xs j) / 5000) % 5).toNat)<5,((bM xs j) / 5000) % 5=(((((bM xs j) / 5000) % 5).toNat:Nat):Int) /\ (((bM xs j) / 5000) % 5).toNat<5] λ n30=>iU zC bods [tn xs j A25 c26] 1 0 Ss.symm WV (by rw[Ss];show j+1 <= 100000000;omega) ?_;rintro A31 c32 T33 ⟨aed,adO⟩;refine aj 10 [.own 8,.nw] [bx ((j:Int)+1)] λ _=>?_;have VA:=adO aaE;refine sS [2,1,0]<|wo ?_;refine adF (j+1,bods++[(tn xs j A25 c26)],A31,c32,T33,U_++UC) [3,4,5,6,7,8,9,10] [1,0] ?_
   try dsimp only
   refine⟨⟨by omega,by rw[abi,Ss];rfl,?_,?_,aed,VA⟩,by omega⟩
   ·intro t ht;rcases abX t j with h|h
    ·rw[qO (by omega)];exact ZU t h
    ·have:t=bods.length:=by omega
     subst this;rw[tp,Ss];exact⟨_,_,rfl⟩
   ·intro t ht;rcases abX t j with h|h
    ·rw[qO (by omega)];exact(VD t h).left
    ·have:t=bods.length:=by omega
     subst this;rw[tp];exact ShH.right XN
  ·refine ae 7 [] λ _=>?_;have ej:(j:Int)=qN xs:=by unfold qN KC;unfold qN KC at hj_;omega
   obtain⟨bb,SY,rfl,rfl,So⟩:=WV.open0 aaE (by decide) (by rw[Ss];omega);refine sT 0 (x:=(bb,.rows 9 d_ (aQ kT (bods++SY)) 90 (0,0)))<|ae 5 (ow 6 16++ow 8 16) λ _=>aaj 5 (.rows 4 3 (aQ xo qM) 25 (0,0))<|aaj 3 (.rows 2 1 (aQ mS (kj 1)) 81 (0,0))<|aaj 2 (.rows 2 2 (aQ mS (kj 2)) 81 (0,0))<|aap (ow 8 16) [0,5,3,2] [0] (v:=.agg #[vI (1+((kv xs 0) % 3)),vS bb 0 j d_,vI (-12000),vI (-9000),vI 12000,vI 9000,vS (Rl+0) 0 3 3,.slice (xp (Rl+1) (Rl+2) (Rl+3) (((kv xs 3) % 3).toNat)) (jQ (((kv xs 3) % 3).toNat)) (jQ (((kv xs 3) % 3).toNat)),vI (4000+(((kv xs 1) % 9)*1000)),vI 0,vI ((-(((kv xs 2) / 36) % 3))*40),vI ((((kv xs 1) / 9) % 5)*100),vI (((kv xs 2) % 4)*100),vI ((((kv xs 2) / 4) % 3)*512),vI (1+(((kv xs 2) / 12) % 3)),vI 60]) (H':=(ap [(bb,.rows 9 d_ (aQ kT (bods++SY)) 90 (0,0)),((Rl+0),.rows 4 3 (aQ xo qM) 25 (0,0)),((Rl+2),.rows 2 1 (aQ mS (kj 1)) 81 (0,0)),((Rl+3),.rows 2 2 (aQ mS (kj 2)) 81 (0,0))] [U_])) ?_;have V5:∀k,k<j -> (bods++SY).getD (0+k) dB=bods.getD k dB:=λ k hk=>by rw[Nat.zero_add,qO (by omega)]
   refine⟨((⟨1+((kv xs 0) % 3),bb,0,j,d_,d_,bods++SY,⟨-12000,-9000,12000,9000⟩,some ⟨(Rl+0),0,none⟩,3,3,xp (Rl+1) (Rl+2) (Rl+3) (kv xs 3 % 3).toNat,jQ (kv xs 3 % 3).toNat,jQ (kv xs 3 % 3).toNat,4000+(((kv xs 1) % 9)*1000),⟨0,(-(((kv xs 2) / 36) % 3))*40⟩,(((kv xs 1) / 9) % 5)*100,((kv xs 2) % 4)*100,(((kv xs 2) / 4) % 3)*512,1+(((kv xs 2) / 12) % 3),60⟩:Setup),[((Rl+0),.rows 4 3 (aQ xo qM) 25 (0,0)),((Rl+2),.rows 2 1 (aQ mS (kj 1)) 81 (0,0)),((Rl+3),.rows 2 2 (aQ mS (kj 2)) 81 (0,0))]++U_),(by simp[ap]),rfl,?_⟩;refine⟨rfl,ej,rfl,(by rw[Ss] at So;exact So),(by rw[Ss] at So;show 0+j <= d_;omega),⟨rfl,rfl,rfl,rfl,rfl,rfl,rfl,rfl⟩,λ k hk=>?_,λ F hbF hF=>⟨⟨by show (0:Int) <= 1+kv xs 0 % 3 /\ 1+kv xs 0 % 3 <= 1000000;omega,by show j <= 1000000;omega⟩,hbF,by show 0+j <= d_;rw[Ss] at So;omega,λ k hk=>?_⟩,⟨⟨rfl,rfl⟩,λ F hF=>⟨RowL.whole (xs:=qM) (hF _ (aaw _ (aax))) (aa0 _),Ac (hF _ (aaw _ (aaA _ (aax)))) (hF _ (aaw _ (aaA _ (aaA _ (aax))))) _⟩⟩⟩
   ·obtain⟨A,c,h⟩:=ZU k hk;exact⟨A,c,by show (bods++SY).getD (0+k) dB=_;rw[V5 k hk];exact h⟩
   ·show ShIn F ((bods++SY).getD (0+k) dB).sh;rw[V5 k hk];exact VD k hk F λ x hx=>hF x (by simp[hx])
def rowN(pl:Int)(xs:List Int)(t:Int)(q:Nat):Int:=if xs.length>0 then aq (xs.getD ((t*pl+(q:Int)) % (xs.length:Int)).toNat 0) 1000000 else 0
def xq(n:Int):Inp:=⟨n % 3-1,n / 3 % 3-1,if n / 9 % 3=0 then n / 27 % 4 else 0⟩
def uY(pl:Int)(xs:List Int)(t:Int)(q:Nat):Inp:=xq (rowN pl xs t q)
def rowL(pl:Int)(xs:List Int)(t:Int)(n:Nat):List Inp:=(List.range n).map (uY pl xs t)
theorem eM(pl:Int)(xs:List Int)(t:Int)(n:Nat):(rowL pl xs t n).length=n:=by simp[rowL]
theorem oI(pl:Int)(xs:List Int)(t:Int)(n:Nat):rowL pl xs t (n+1)=rowL pl xs t n++[uY pl xs t n]:=by simp[rowL,List.range_succ]
theorem G7{pl:Int}{xs:List Int}{t:Int}{n i:Nat}(h:i<n):(rowL pl xs t n).getD i dI=uY pl xs t i:=by simp[rowL,h]
theorem KD{F:HL}{A:Option Addr}{n:Nat}{xs:List Int}(h:ArgL F A n xs)(pl t:Int)(q:Nat):0 <= rowN pl xs t q /\ rowN pl xs t q<1000000:=by
 unfold rowN;split
 ·next hi =>
  rw[h.len] at hi;have h1:=Int.emod_nonneg (t*pl+(q:Int)) (show (n:Int)≠0 by omega);have h2:=Int.emod_lt_of_pos (t*pl+(q:Int)) (show (0:Int)<n by omega);rw[h.len];obtain⟨_,_,_,_,_,_,_,_,_,_,hr⟩:=h.at (k:=((t*pl+(q:Int)) % (n:Int)).toNat) (by omega);exact b8 hr 1000000 (by decide)
 ·omega
theorem KE(S:Setup)(A:Option Addr)(n cap:Nat)(xs:List Int)(t:Int)(F:HL)(hl:ArgL F A n xs)(hn:n <= 9223372036854775807)(hp:0 <= S.players /\ S.players <= 1000000)(ht:0 <= t /\ t <= 1000000):Sp Tryz.prog 30 #[Setup.v S,.slice A n cap,vI t] (ap [] []) F (λ u H'=>∃x:Option Addr × Nat × HL,H'=ap [] [x.2.2] /\ (u=.slice x.1 S.players.toNat x.2.1 /\ SlIs cV 40 (rowL S.players xs t S.players.toNat) x.1 x.2.1 x.2.2 /\ bB x.1)):=by
 have hm:0 <= t*S.players /\ t*S.players <= 1000000000000:=⟨Int.mul_nonneg ht.1 hp.1,Int.le_trans (Int.mul_le_mul ht.2 hp.2 hp.1 (by decide)) (by decide)⟩;refine aat Tryz.func30 rfl mn (A:=[]) (Ts:=[]) rfl λ w0=>?_;refine ae 18 [] λ n1=>aao<|aan (σ:=Nat × Option Addr × Nat × HL) (λ ⟨q,A_,c_,T_⟩=>⟨[(1,.slice A n cap),(2,vI t),(3,vP (n1+0) 0),(7,.slice A_ q c_),(8,vI (q:Int))],[((n1+0),.lit (Setup.l S) 31 (0,0))],[T_],(q:Int) <= S.players /\ SlIs cV 40 (rowL S.players xs t q) A_ c_ T_ /\ bB A_,S.players.toNat-q⟩) (0,none,0,[]) [0] [0] (⟨by show (0:Int) <= _;omega,aas _ _,trivial⟩) ?_;rintro⟨q,A_,c_,T_⟩ ⟨VS,RA,UT⟩ RF;refine ae 9 [.own 0] λ _=>aal ((q:Int)<S.players) 14 (λ h4=>?_) λ h4=>?_
 ·refine ae 18 [] λ _=>aal ((n:Int)>0) 19 (λ h5=>?_) λ h5=>?_
  ·refine aj 12 [.own 0,.nw,.nw,.nw] [0 <= (t*S.players)+(q:Int) /\ (0:Int)<(n:Int) /\ (t*S.players)+(q:Int) <= 9223372036854775807,bx ((t*S.players)+(q:Int)),bx (t*S.players)] λ _=>?_;have akk:=Int.emod_nonneg (t*S.players+(q:Int)) (show (n:Int)≠0 by omega);have akj:=Int.emod_lt_of_pos (t*S.players+(q:Int)) (show (0:Int)<n by omega);obtain⟨qx6,UD,Nx6,gx6,adt,acp,Wq,VK,abc,VV,Yx⟩:=hl.at (k:=((t*S.players+(q:Int)) % (n:Int)).toNat) (by omega);refine aN 20 (congrArg (λ v_=>(.slice v_ n cap:Value)) Wq)<|RN.ro (λ _=>(mc VK mn))<|aj 2 [.ix ((((t*S.players)+(q:Int)) % (n:Int)).toNat),.rorow 0 (UD+((((t*S.players)+(q:Int)) % (n:Int)).toNat)) 0] [(UD+((((t*S.players)+(q:Int)) % (n:Int)).toNat)*1)=(UD+((((t*S.players)+(q:Int)) % (n:Int)).toNat))*1+0 /\ (UD+((((t*S.players)+(q:Int)) % (n:Int)).toNat))<Nx6,((t*S.players)+(q:Int)) % (n:Int)=(((((t*S.players)+(q:Int)) % (n:Int)).toNat:Nat):Int) /\ (((t*S.players)+(q:Int)) % (n:Int)).toNat<n] λ _=>aN 31 (congrArg (λ v_=>(v_:Value)) VV)<|aah (fJ (xs.getD (((t*S.players+(q:Int)) % (n:Int)).toNat) 0) 1000000 (by decide) _) ?_;have hA7:=b8 (n:=xs.getD (((t*S.players+(q:Int)) % (n:Int)).toNat) 0) Yx 1000000 (by decide);refine ae 4 [] λ _=>aj 22 [.nw,.nw,.nw,.nw,.nw,.own 0,.own 0,.own 0,.nw,.nw] [0 <= (aq (xs.getD (((t*S.players+(q:Int)) % (n:Int)).toNat) 0) 1000000) / 9 /\ (0:Int)<3 /\ (aq (xs.getD (((t*S.players+(q:Int)) % (n:Int)).toNat) 0) 1000000) / 9 <= 9223372036854775807,0 <= aq (xs.getD (((t*S.players+(q:Int)) % (n:Int)).toNat) 0) 1000000 /\ (0:Int)<9 /\ aq (xs.getD (((t*S.players+(q:Int)) % (n:Int)).toNat) 0) 1000000 <= 9223372036854775807,bx ((((aq (xs.getD (((t*S.players+(q:Int)) % (n:Int)).toNat) 0) 1000000) / 3) % 3)-1),0 <= (aq (xs.getD (((t*S.players+(q:Int)) % (n:Int)).toNat) 0) 1000000) / 3 /\ (0:Int)<3 /\ (aq (xs.getD (((t*S.players+(q:Int)) % (n:Int)).toNat) 0) 1000000) / 3 <= 9223372036854775807,0 <= aq (xs.getD (((t*S.players+(q:Int)) % (n:Int)).toNat) 0) 1000000 /\ (0:Int)<3 /\ aq (xs.getD (((t*S.players+(q:Int)) % (n:Int)).toNat) 0) 1000000 <= 9223372036854775807,bx (((aq (xs.getD (((t*S.players+(q:Int)) % (n:Int)).toNat) 0) 1000000) % 3)-1),0 <= aq (xs.getD (((t*S.players+(q:Int)) % (n:Int)).toNat) 0) 1000000 /\ (0:Int)<3 /\ aq (xs.getD (((t*S.players+(q:Int)) % (n:Int)).toNat) 0) 1000000 <= 9223372036854775807] λ n8=>aal (((aq (xs.getD (((t*S.players+(q:Int)) % (n:Int)).toNat) 0) 1000000) / 9) % 3=0) 44 (λ h9=>?_) λ h9=>?_
   ·refine aj 13 [.nw,.nw,.own 0,.own 0,.own 0,.own 0] [0 <= (aq (xs.getD (((t*S.players+(q:Int)) % (n:Int)).toNat) 0) 1000000) / 27 /\ (0:Int)<4 /\ (aq (xs.getD (((t*S.players+(q:Int)) % (n:Int)).toNat) 0) 1000000) / 27 <= 9223372036854775807,0 <= aq (xs.getD (((t*S.players+(q:Int)) % (n:Int)).toNat) 0) 1000000 /\ (0:Int)<27 /\ aq (xs.getD (((t*S.players+(q:Int)) % (n:Int)).toNat) 0) 1000000 <= 9223372036854775807] λ SZ=>?_;have SJ:uY S.players xs t q=(⟨((aq (xs.getD (((t*S.players+(q:Int)) % (n:Int)).toNat) 0) 1000000) % 3)-1,(((aq (xs.getD (((t*S.players+(q:Int)) % (n:Int)).toNat) 0) 1000000) / 3) % 3)-1,((aq (xs.getD (((t*S.players+(q:Int)) % (n:Int)).toNat) 0) 1000000) / 27) % 4⟩:Inp):=by
     unfold uY;rw[show rowN S.players xs t q=aq (xs.getD (((t*S.players+(q:Int)) % (n:Int)).toNat) 0) 1000000 from by unfold rowN;rw[hl.len];rw[if_pos (by omega)]]
     first|rfl|(unfold xq;simp only[if_pos h9])
    refine iU qD (rowL S.players xs t q) [(⟨((aq (xs.getD (((t*S.players+(q:Int)) % (n:Int)).toNat) 0) 1000000) % 3)-1,(((aq (xs.getD (((t*S.players+(q:Int)) % (n:Int)).toNat) 0) 1000000) / 3) % 3)-1,((aq (xs.getD (((t*S.players+(q:Int)) % (n:Int)).toNat) 0) 1000000) / 27) % 4⟩:Inp)] 0 0 (eM _ _ _ _).symm RA (by rw[eM];show q+1 <= 100000000;omega) ?_;rintro A11 c12 SC ⟨TH,aaF⟩;refine aj 9 [.nw] [bx ((q:Int)+1)] λ _=>?_;have VA:=aaF UT;refine RF (q+1,A11,c12,SC) [2] [0] ?_
    try dsimp only
    refine⟨⟨by omega,?_,VA⟩,by omega⟩;rw[oI,SJ];exact TH
   ·refine ae 7 (aab 3) λ n16=>?_;have SJ:uY S.players xs t q=(⟨((aq (xs.getD (((t*S.players+(q:Int)) % (n:Int)).toNat) 0) 1000000) % 3)-1,(((aq (xs.getD (((t*S.players+(q:Int)) % (n:Int)).toNat) 0) 1000000) / 3) % 3)-1,0⟩:Inp):=by
     unfold uY;rw[show rowN S.players xs t q=aq (xs.getD (((t*S.players+(q:Int)) % (n:Int)).toNat) 0) 1000000 from by unfold rowN;rw[hl.len];rw[if_pos (by omega)]]
     first|rfl|(unfold xq;simp only[if_neg h9])
    refine iU qD (rowL S.players xs t q) [(⟨((aq (xs.getD (((t*S.players+(q:Int)) % (n:Int)).toNat) 0) 1000000) % 3)-1,(((aq (xs.getD (((t*S.players+(q:Int)) % (n:Int)).toNat) 0) 1000000) / 3) % 3)-1,0⟩:Inp)] 0 0 (eM _ _ _ _).symm RA (by rw[eM];show q+1 <= 100000000;omega) ?_;rintro A17 ZY Ve ⟨WW,Yl⟩;refine aj 9 [.nw] [bx ((q:Int)+1)] λ _=>?_;have VA:=Yl UT;refine RF (q+1,A17,ZY,Ve) [2] [0] ?_
    try dsimp only
    refine⟨⟨by omega,?_,VA⟩,by omega⟩;rw[oI,SJ];exact WW
  ·refine ae 4 [] λ _=>ae 35 (ow 0 7) λ n22=>?_;have SJ:uY S.players xs t q=(⟨(-1),(-1),0⟩:Inp):=by
    unfold uY;rw[show rowN S.players xs t q=0 from by unfold rowN;rw[hl.len];rw[if_neg (by omega)]];rfl
   refine iU qD (rowL S.players xs t q) [(⟨(-1),(-1),0⟩:Inp)] 0 0 (eM _ _ _ _).symm RA (by rw[eM];show q+1 <= 100000000;omega) ?_;rintro A23 c24 X9 ⟨aee,adP⟩;refine aj 9 [.nw] [bx ((q:Int)+1)] λ _=>?_;have VA:=adP UT;refine RF (q+1,A23,c24,X9) [2] [0] ?_
   try dsimp only
   refine⟨⟨by omega,?_,VA⟩,by omega⟩;rw[oI,SJ];exact aee
 ·refine ae 12 [] λ _=>aap [] [] [0] (v:=.slice A_ q c_) (H':=(ap [] [T_])) ?_;have ei:q=S.players.toNat:=by omega
  subst ei;exact⟨(A_,c_,T_),rfl,rfl,RA,UT⟩
theorem pL(a:Addr)(n c:Nat)(xs:List Bod)(F:HL)(hl:SrcIn Tryz.prog kT F (some a) n xs)(hb:n <= 100000000):Sp Tryz.prog 113 #[.slice (some a) n c] [] F (λ u H'=>∃x:Option Addr × Nat × HL,H'=ap [] [x.2.2] /\ (u=.slice x.1 n x.2.1 /\ ClS kT 90 xs x.1 x.2.1 x.2.2)):=by
 refine aat Tryz.func113 rfl mn (A:=[]) (Ts:=[]) rfl λ w0=>?_;refine ae 19 [] λ n1=>aao<|jn (A:=(some ⟨(n1+0),0,none⟩)) (B:=(some a)) (c':=c) zC xs 0 (λ a_ e_=>by cases e_;rfl) (m:=n) (tx:=23) hl.1.1.symm (by rw[hl.1.1];exact hb) (λ e_ he X w hR=>hl.2 c he X w hR) ?_;rintro A2 c3 T4 SD;refine ae 3 [] λ _=>aap [] [] [0] (v:=.slice A2 xs.length c3) (H':=(ap [] [T4])) ?_;exact⟨(A2,c3,T4),rfl,by rw[hl.1.1],_,SD⟩
theorem pM(c:Nat)(F:HL):Sp Tryz.prog 113 #[.slice none 0 c] [] F (λ u H'=>∃x:Option Addr × Nat × HL,H'=ap [] [x.2.2] /\ (u=.slice x.1 0 x.2.1 /\ ClS kT 90 [] x.1 x.2.1 x.2.2)):=by
 refine aat Tryz.func113 rfl mn (A:=[]) (Ts:=[]) rfl λ w0=>?_;refine ae 18 [] λ _=>aap [] [] [] (v:=.slice none 0 0) (H':=(ap [] [])) ?_;exact⟨(none,0,[]),rfl,rfl,.nil _ _ _⟩
theorem qP(A:Option Addr)(n c:Nat)(xs:List Bod)(F:HL)(hl:SrcIn Tryz.prog kT F A n xs)(hb:n <= 100000000):Sp Tryz.prog 113 #[.slice A n c] (ap [] []) F (λ u H'=>∃x:Option Addr × Nat × HL,H'=ap [] [x.2.2] /\ (u=.slice x.1 n x.2.1 /\ ClS kT 90 xs x.1 x.2.1 x.2.2)):=by
 cases A with
 | some a=>exact pL a n c xs F hl hb
 | none =>
  obtain rfl:n=0:=hl.1.2 rfl;obtain rfl:xs=[]:=abR hl.1.1;exact pM c F
theorem qQ(a:Addr)(n c:Nat)(xs:List V2)(F:HL)(hl:SrcIn Tryz.prog mj F (some a) n xs)(hb:n <= 100000000):Sp Tryz.prog 114 #[.slice (some a) n c] [] F (λ u H'=>∃x:Option Addr × Nat × HL,H'=ap [] [x.2.2] /\ (u=.slice x.1 n x.2.1 /\ ClS mj 29 xs x.1 x.2.1 x.2.2)):=by
 refine aat Tryz.func114 rfl mn (A:=[]) (Ts:=[]) rfl λ w0=>?_;refine ae 19 [] λ n1=>aao<|jn (A:=(some ⟨(n1+0),0,none⟩)) (B:=(some a)) (c':=c) G5 xs 0 (λ a_ e_=>by cases e_;rfl) (m:=n) (tx:=83) hl.1.1.symm (by rw[hl.1.1];exact hb) (λ e_ he X w hR=>hl.2 c he X w hR) ?_;rintro A2 c3 T4 SD;refine ae 3 [] λ _=>aap [] [] [0] (v:=.slice A2 xs.length c3) (H':=(ap [] [T4])) ?_;exact⟨(A2,c3,T4),rfl,by rw[hl.1.1],_,SD⟩
theorem qR(c:Nat)(F:HL):Sp Tryz.prog 114 #[.slice none 0 c] [] F (λ u H'=>∃x:Option Addr × Nat × HL,H'=ap [] [x.2.2] /\ (u=.slice x.1 0 x.2.1 /\ ClS mj 29 [] x.1 x.2.1 x.2.2)):=by
 refine aat Tryz.func114 rfl mn (A:=[]) (Ts:=[]) rfl λ w0=>?_;refine ae 18 [] λ _=>aap [] [] [] (v:=.slice none 0 0) (H':=(ap [] [])) ?_;exact⟨(none,0,[]),rfl,rfl,.nil _ _ _⟩
theorem so(A:Option Addr)(n c:Nat)(xs:List V2)(F:HL)(hl:SrcIn Tryz.prog mj F A n xs)(hb:n <= 100000000):Sp Tryz.prog 114 #[.slice A n c] (ap [] []) F (λ u H'=>∃x:Option Addr × Nat × HL,H'=ap [] [x.2.2] /\ (u=.slice x.1 n x.2.1 /\ ClS mj 29 xs x.1 x.2.1 x.2.2)):=by
 cases A with
 | some a=>exact qQ a n c xs F hl hb
 | none =>
  obtain rfl:n=0:=hl.1.2 rfl;obtain rfl:xs=[]:=abR hl.1.1;exact qR c F
theorem qS(a:Addr)(n c:Nat)(xs:List Bx)(F:HL)(hl:SrcIn Tryz.prog xo F (some a) n xs)(hb:n <= 100000000):Sp Tryz.prog 115 #[.slice (some a) n c] [] F (λ u H'=>∃x:Option Addr × Nat × HL,H'=ap [] [x.2.2] /\ (u=.slice x.1 n x.2.1 /\ ClS xo 25 xs x.1 x.2.1 x.2.2)):=by
 refine aat Tryz.func115 rfl mn (A:=[]) (Ts:=[]) rfl λ w0=>?_;refine ae 19 [] λ n1=>aao<|jn (A:=(some ⟨(n1+0),0,none⟩)) (B:=(some a)) (c':=c) Mb xs 0 (λ a_ e_=>by cases e_;rfl) (m:=n) (tx:=26) hl.1.1.symm (by rw[hl.1.1];exact hb) (λ e_ he X w hR=>hl.2 c he X w hR) ?_;rintro A2 c3 T4 SD;refine ae 3 [] λ _=>aap [] [] [0] (v:=.slice A2 xs.length c3) (H':=(ap [] [T4])) ?_;exact⟨(A2,c3,T4),rfl,by rw[hl.1.1],_,SD⟩
theorem qT(c:Nat)(F:HL):Sp Tryz.prog 115 #[.slice none 0 c] [] F (λ u H'=>∃x:Option Addr × Nat × HL,H'=ap [] [x.2.2] /\ (u=.slice x.1 0 x.2.1 /\ ClS xo 25 [] x.1 x.2.1 x.2.2)):=by
 refine aat Tryz.func115 rfl mn (A:=[]) (Ts:=[]) rfl λ w0=>?_;refine ae 18 [] λ _=>aap [] [] [] (v:=.slice none 0 0) (H':=(ap [] [])) ?_;exact⟨(none,0,[]),rfl,rfl,.nil _ _ _⟩
theorem sr(A:Option Addr)(n c:Nat)(xs:List Bx)(F:HL)(hl:SrcIn Tryz.prog xo F A n xs)(hb:n <= 100000000):Sp Tryz.prog 115 #[.slice A n c] (ap [] []) F (λ u H'=>∃x:Option Addr × Nat × HL,H'=ap [] [x.2.2] /\ (u=.slice x.1 n x.2.1 /\ ClS xo 25 xs x.1 x.2.1 x.2.2)):=by
 cases A with
 | some a=>exact qS a n c xs F hl hb
 | none =>
  obtain rfl:n=0:=hl.1.2 rfl;obtain rfl:xs=[]:=abR hl.1.1;exact qT c F
theorem pN(a:Addr)(n c:Nat)(xs:List Dr)(F:HL)(hl:SrcIn Tryz.prog mS F (some a) n xs)(hb:n <= 100000000):Sp Tryz.prog 116 #[.slice (some a) n c] [] F (λ u H'=>∃x:Option Addr × Nat × HL,H'=ap [] [x.2.2] /\ (u=.slice x.1 n x.2.1 /\ ClS mS 81 xs x.1 x.2.1 x.2.2)):=by
 refine aat Tryz.func116 rfl mn (A:=[]) (Ts:=[]) rfl λ w0=>?_;refine ae 19 [] λ n1=>aao<|jn (A:=(some ⟨(n1+0),0,none⟩)) (B:=(some a)) (c':=c) Mc xs 0 (λ a_ e_=>by cases e_;rfl) (m:=n) (tx:=27) hl.1.1.symm (by rw[hl.1.1];exact hb) (λ e_ he X w hR=>hl.2 c he X w hR) ?_;rintro A2 c3 T4 SD;refine ae 3 [] λ _=>aap [] [] [0] (v:=.slice A2 xs.length c3) (H':=(ap [] [T4])) ?_;exact⟨(A2,c3,T4),rfl,by rw[hl.1.1],_,SD⟩
theorem pO(c:Nat)(F:HL):Sp Tryz.prog 116 #[.slice none 0 c] [] F (λ u H'=>∃x:Option Addr × Nat × HL,H'=ap [] [x.2.2] /\ (u=.slice x.1 0 x.2.1 /\ ClS mS 81 [] x.1 x.2.1 x.2.2)):=by
 refine aat Tryz.func116 rfl mn (A:=[]) (Ts:=[]) rfl λ w0=>?_;refine ae 18 [] λ _=>aap [] [] [] (v:=.slice none 0 0) (H':=(ap [] [])) ?_;exact⟨(none,0,[]),rfl,rfl,.nil _ _ _⟩
theorem qU(A:Option Addr)(n c:Nat)(xs:List Dr)(F:HL)(hl:SrcIn Tryz.prog mS F A n xs)(hb:n <= 100000000):Sp Tryz.prog 116 #[.slice A n c] (ap [] []) F (λ u H'=>∃x:Option Addr × Nat × HL,H'=ap [] [x.2.2] /\ (u=.slice x.1 n x.2.1 /\ ClS mS 81 xs x.1 x.2.1 x.2.2)):=by
 cases A with
 | some a=>exact pN a n c xs F hl hb
 | none =>
  obtain rfl:n=0:=hl.1.2 rfl;obtain rfl:xs=[]:=abR hl.1.1;exact pO c F
theorem qV(a:Addr)(n c:Nat)(xs:List Ins)(F:HL)(hl:SrcIn Tryz.prog kU F (some a) n xs)(hb:n <= 100000000):Sp Tryz.prog 130 #[.slice (some a) n c] [] F (λ u H'=>∃x:Option Addr × Nat × HL,H'=ap [] [x.2.2] /\ (u=.slice x.1 n x.2.1 /\ ClS kU 231 xs x.1 x.2.1 x.2.2)):=by
 refine aat Tryz.func130 rfl mn (A:=[]) (Ts:=[]) rfl λ w0=>?_;refine ae 19 [] λ n1=>aao<|jn (A:=(some ⟨(n1+0),0,none⟩)) (B:=(some a)) (c':=c) F6 xs 0 (λ a_ e_=>by cases e_;rfl) (m:=n) (tx:=139) hl.1.1.symm (by rw[hl.1.1];exact hb) (λ e_ he X w hR=>hl.2 c he X w hR) ?_;rintro A2 c3 T4 SD;refine ae 3 [] λ _=>aap [] [] [0] (v:=.slice A2 xs.length c3) (H':=(ap [] [T4])) ?_;exact⟨(A2,c3,T4),rfl,by rw[hl.1.1],_,SD⟩
theorem qW(c:Nat)(F:HL):Sp Tryz.prog 130 #[.slice none 0 c] [] F (λ u H'=>∃x:Option Addr × Nat × HL,H'=ap [] [x.2.2] /\ (u=.slice x.1 0 x.2.1 /\ ClS kU 231 [] x.1 x.2.1 x.2.2)):=by
 refine aat Tryz.func130 rfl mn (A:=[]) (Ts:=[]) rfl λ w0=>?_;refine ae 18 [] λ _=>aap [] [] [] (v:=.slice none 0 0) (H':=(ap [] [])) ?_;exact⟨(none,0,[]),rfl,rfl,.nil _ _ _⟩
theorem mz(A:Option Addr)(n c:Nat)(xs:List Ins)(F:HL)(hl:SrcIn Tryz.prog kU F A n xs)(hb:n <= 100000000):Sp Tryz.prog 130 #[.slice A n c] (ap [] []) F (λ u H'=>∃x:Option Addr × Nat × HL,H'=ap [] [x.2.2] /\ (u=.slice x.1 n x.2.1 /\ ClS kU 231 xs x.1 x.2.1 x.2.2)):=by
 cases A with
 | some a=>exact qV a n c xs F hl hb
 | none =>
  obtain rfl:n=0:=hl.1.2 rfl;obtain rfl:xs=[]:=abR hl.1.1;exact qW c F
theorem oJ(a:Addr)(n c:Nat)(xs:List Inp)(F:HL)(hl:SrcIn Tryz.prog cV F (some a) n xs)(hb:n <= 100000000):Sp Tryz.prog 46 #[.slice (some a) n c] [] F (λ u H'=>∃x:Option Addr × Nat × HL,H'=ap [] [x.2.2] /\ (u=.slice x.1 n x.2.1 /\ ClS cV 40 xs x.1 x.2.1 x.2.2)):=by
 refine aat Tryz.func46 rfl mn (A:=[]) (Ts:=[]) rfl λ w0=>?_;refine ae 19 [] λ n1=>aao<|jn (A:=(some ⟨(n1+0),0,none⟩)) (B:=(some a)) (c':=c) qD xs 0 (λ a_ e_=>by cases e_;rfl) (m:=n) (tx:=38) hl.1.1.symm (by rw[hl.1.1];exact hb) (λ e_ he X w hR=>hl.2 c he X w hR) ?_;rintro A2 c3 T4 SD;refine ae 3 [] λ _=>aap [] [] [0] (v:=.slice A2 xs.length c3) (H':=(ap [] [T4])) ?_;exact⟨(A2,c3,T4),rfl,by rw[hl.1.1],_,SD⟩
theorem oK(c:Nat)(F:HL):Sp Tryz.prog 46 #[.slice none 0 c] [] F (λ u H'=>∃x:Option Addr × Nat × HL,H'=ap [] [x.2.2] /\ (u=.slice x.1 0 x.2.1 /\ ClS cV 40 [] x.1 x.2.1 x.2.2)):=by
 refine aat Tryz.func46 rfl mn (A:=[]) (Ts:=[]) rfl λ w0=>?_;refine ae 18 [] λ _=>aap [] [] [] (v:=.slice none 0 0) (H':=(ap [] [])) ?_;exact⟨(none,0,[]),rfl,rfl,.nil _ _ _⟩
theorem pP(A:Option Addr)(n c:Nat)(xs:List Inp)(F:HL)(hl:SrcIn Tryz.prog cV F A n xs)(hb:n <= 100000000):Sp Tryz.prog 46 #[.slice A n c] (ap [] []) F (λ u H'=>∃x:Option Addr × Nat × HL,H'=ap [] [x.2.2] /\ (u=.slice x.1 n x.2.1 /\ ClS cV 40 xs x.1 x.2.1 x.2.2)):=by
 cases A with
 | some a=>exact oJ a n c xs F hl hb
 | none =>
  obtain rfl:n=0:=hl.1.2 rfl;obtain rfl:xs=[]:=abR hl.1.1;exact oK c F
def eO(lo hi:Int)(ns:List Int):Prop:=∀k,k<ns.length -> lo <= ns.getD k 0 /\ ns.getD k 0 <= hi
instance (lo hi:Int) (ns:List Int):Decidable (eO lo hi ns):=inferInstanceAs (Decidable (∀k,k<ns.length -> _))
theorem xr(lo hi:Int):eO lo hi []:=λ k hk=>absurd hk (Nat.not_lt_zero _)
theorem tu{lo hi x:Int}{ns:List Int}:eO lo hi (x::ns)↔(lo <= x /\ x <= hi) /\ eO lo hi ns:=by
 constructor
 ·intro h;exact⟨h 0 (Nat.succ_pos _),λ k hk=>h (k+1) (Nat.succ_lt_succ hk)⟩
 ·rintro⟨h1,h2⟩ k hk;cases k with
  | zero=>exact h1
  | succ k=>exact h2 k (Nat.lt_of_succ_lt_succ hk)
theorem eI(lo hi:Int)(ns:List Int)(q:Nat)(F:HL)(hq:(q,.rows 1 ns.length (aU ns) 3 (0,0))∈F)(hn:ns.length <= 1000000):Sp Tryz.prog 142 #[vI lo,vI hi,vS q 0 ns.length ns.length] [] F (λ u H'=>u=.bool (decide (eO lo hi ns)) /\ H'=[]):=by
 refine aat Tryz.func142 rfl (mc hq mn) (A:=[]) (Ts:=[]) rfl λ w0=>?_;refine ae 14 [] λ _=>aan (σ:=Nat) (λ k=>⟨[(0,vI lo),(1,vI hi),(9,vS q 0 ns.length ns.length),(10,vI (ns.length:Int)),(11,vI (k:Int))],[],[],k <= ns.length /\ ∀t,t<k -> lo <= ns.getD t 0 /\ ns.getD t 0 <= hi,ns.length-k⟩) 0 [] [] (⟨aa9 _,λ t ht=>absurd ht (Nat.not_lt_zero _)⟩) ?_;rintro k ⟨hkl,hwk⟩ R9;refine ae 6 [] λ _=>aal ((k:Int)<(ns.length:Int)) 12 (λ h3=>?_) λ h3=>?_
 ·refine aj 18 [.ix k,.rorow 0 k 0] [(0+k*1)=k*1+0 /\ k<ns.length,(k:Int)=((k:Nat):Int) /\ k<ns.length] λ _=>aal (ns.getD k 0<lo) 18 (λ h4=>?_) λ h4=>?_
  ·refine ae 12 [] λ _=>aap [] [] [] (v:=.bool false) (H':=[]) ?_;exact⟨by rw[aco (show ¬ eO lo hi ns from λ h_=>by have:=h_ k (by omega);omega)],rfl⟩
  ·refine ae 6 [] λ _=>aal (ns.getD k 0>hi) 22 (λ h5=>?_) λ h5=>?_
   ·refine ae 6 [] λ _=>aap [] [] [] (v:=.bool false) (H':=[]) ?_;exact⟨by rw[aco (show ¬ eO lo hi ns from λ h_=>by have:=h_ k (by omega);omega)],rfl⟩
   ·refine aj 8 [.nw] [bx ((k:Int)+1)] λ _=>?_;refine R9 (k+1) [] [] ?_
    try dsimp only
    refine⟨⟨by omega,λ t ht=>?_⟩,by omega⟩;rcases abX t k with h_|h_
    ·exact hwk t h_
    ·obtain rfl:t=k:=by omega
     exact⟨by omega,by omega⟩
 ·refine ae 11 [] λ _=>aap [] [] [] (v:=.bool true) (H':=[]) ?_;exact⟨by rw[acr (show eO lo hi ns from λ t ht=>hwk t (by omega))],rfl⟩
def gD(b:Bx):Prop:=(b.x0 <= b.x1 /\ b.y0 <= b.y1) /\ eO (-1048576) 1048576 [b.x0,b.y0,b.x1,b.y1]
instance (b:Bx):Decidable (gD b):=inferInstanceAs (Decidable (_ /\ _))
def fV(b:Bod)(x:Bx):Prop:=eO 0 4096 [b.mot.inv] /\ eO (-16384) 16384 [b.mot.vx,b.mot.vy] /\ eO x.x0 x.x1 [b.mot.px] /\ eO x.y0 x.y1 [b.mot.py] /\ eO (-2147483647) 2147483647 [b.a,b.b]
instance (b:Bod) (x:Bx):Decidable (fV b x):=inferInstanceAs (Decidable (_ /\ _))
def jR(S:Setup):Prop:=eO 1 8 [S.players] /\ eO S.players 24 [(S.nb:Int)] /\ eO 0 4194304 [S.fog] /\ eO (-16384) 16384 [S.g.x,S.g.y] /\ eO 0 16384 [S.push] /\ eO 0 1024 [S.drag,S.rest] /\ eO 1 4 [S.rounds] /\ eO 0 1000 [S.fuel]
instance (S:Setup):Decidable (jR S):=inferInstanceAs (Decidable (_ /\ _))
theorem qX(b:Bx)  (F:HL):Sp Tryz.prog 110 #[.agg #[vI b.x0,vI b.y0,vI b.x1,vI b.y1]] [] F (λ u H'=>u=.bool (decide (gD b)) /\ H'=[]):=by
 refine aat Tryz.func110 rfl mn (A:=[]) (Ts:=[]) rfl λ w0=>?_;refine ae 14 (aab 2) λ n1=>aal (b.x0 <= b.x1) 8 (λ h2=>?_) λ h2=>?_
 ·refine ae 7 (aab 2) λ _=>aal (b.y0 <= b.y1) 15 (λ h3=>?_) λ h3=>?_
  ·refine ae 9 (aab 4) λ n4=>aaj 0 (.rows 1 4 (aU [b.x0,b.y0,b.x1,b.y1]) 3 (0,0))<|aah (eI (-1048576) 1048576 [b.x0,b.y0,b.x1,b.y1] (n4+0) _ (av 0) (aaN rfl))<|ae 4 [] λ _=>aap [] [] [] (v:=.bool (decide (eO (-1048576) 1048576 [b.x0,b.y0,b.x1,b.y1]))) (H':=[]) ?_;exact⟨by simp[gD, *],rfl⟩
  ·refine ae 14 [] λ _=>aap [] [] [] (v:=.bool false) (H':=[]) ?_;exact⟨by simp[gD, *],rfl⟩
 ·refine ae 21 [] λ _=>aap [] [] [] (v:=.bool false) (H':=[]) ?_;exact⟨by simp[gD, *],rfl⟩
theorem D8(b:Bod)(x:Bx)(F:HL):Sp Tryz.prog 112 #[.agg #[vI b.sh.r,.slice b.sh.A b.sh.poly.length b.sh.cap,vI b.mot.px,vI b.mot.py,vI b.mot.vx,vI b.mot.vy,vI b.mot.inv,vI b.a,vI b.b],.agg #[vI x.x0,vI x.y0,vI x.x1,vI x.y1]] [] F (λ u H'=>u=.bool (decide (fV b x)) /\ H'=[]):=by
 refine aat Tryz.func112 rfl mn (A:=[]) (Ts:=[]) rfl λ w0=>?_;refine ae 20 (ow 1 5++ow 0 6) λ n1=>aaj 0 (.rows 1 1 (aU [b.mot.inv]) 3 (0,0))<|aah (eI 0 4096 [b.mot.inv] (n1+3) _ (av 0) (aaN rfl))<|ae 1 [] λ _=>aal (eO 0 4096 [b.mot.inv]) 12 (λ h2=>?_) λ h2=>?_
 ·refine ae 7 [.own 1,.own 1] λ n3=>aaj 0 (.rows 1 2 (aU [b.mot.vx,b.mot.vy]) 3 (0,0))<|aah (eI (-16384) 16384 [b.mot.vx,b.mot.vy] (n3+0) _ (av 0) (aaN rfl))<|ae 2 [] λ _=>aal (eO (-16384) 16384 [b.mot.vx,b.mot.vy]) 22 (λ h4=>?_) λ h4=>?_
  ·refine ae 8 [.own 3,.own 3,.own 2] λ n5=>aaj 0 (.rows 1 1 (aU [b.mot.px]) 3 (0,0))<|aah (eI x.x0 x.x1 [b.mot.px] (n5+0) _ (av 0) (aaN rfl))<|ae 2 [] λ _=>aal (eO x.x0 x.x1 [b.mot.px]) 33 (λ h6=>?_) λ h6=>?_
   ·refine ae 8 [.own 4,.own 4,.own 3] λ n7=>aaj 0 (.rows 1 1 (aU [b.mot.py]) 3 (0,0))<|aah (eI x.y0 x.y1 [b.mot.py] (n7+0) _ (av 0) (aaN rfl))<|ae 2 [] λ _=>aal (eO x.y0 x.y1 [b.mot.py]) 44 (λ h8=>?_) λ h8=>?_
    ·refine ae 5 [.own 6,.own 6] λ n9=>aaj 0 (.rows 1 2 (aU [b.a,b.b]) 3 (0,0))<|aah (eI (-2147483647) 2147483647 [b.a,b.b] (n9+0) _ (av 0) (aaN rfl))<|ae 4 [] λ _=>aap [] [] [] (v:=.bool (decide (eO (-2147483647) 2147483647 [b.a,b.b]))) (H':=[]) ?_;exact⟨by simp[fV, *],rfl⟩
    ·refine ae 10 [] λ _=>aap [] [] [] (v:=.bool false) (H':=[]) ?_;exact⟨by simp[fV, *],rfl⟩
   ·refine ae 21 [] λ _=>aap [] [] [] (v:=.bool false) (H':=[]) ?_;exact⟨by simp[fV, *],rfl⟩
  ·refine ae 32 [] λ _=>aap [] [] [] (v:=.bool false) (H':=[]) ?_;exact⟨by simp[fV, *],rfl⟩
 ·refine ae 42 [] λ _=>aap [] [] [] (v:=.bool false) (H':=[]) ?_;exact⟨by simp[fV, *],rfl⟩
theorem G8(S:Setup)(F:HL):Sp Tryz.prog 109 #[(Setup.v S)] [] F (λ u H'=>u=.bool (decide (jR S)) /\ H'=[]):=by
 refine aat Tryz.func109 rfl mn (A:=[]) (Ts:=[]) rfl λ w0=>?_;refine ae 11 [.own 0] λ n1=>aaj 0 (.rows 1 1 (aU [S.players]) 3 (0,0))<|aah (eI 1 8 [S.players] (n1+1) _ (av 0) (aaN rfl))<|ae 1 [] λ _=>aal (eO 1 8 [S.players]) 7 (λ h2=>?_) λ h2=>?_
 ·refine ae 6 [.own 1,.own 1] λ n3=>aaj 0 (.rows 1 1 (aU [(S.nb:Int)]) 3 (0,0))<|aah (eI S.players 24 [(S.nb:Int)] (n3+0) _ (av 0) (aaN rfl))<|ae 2 [] λ _=>aal (eO S.players 24 [(S.nb:Int)]) 16 (λ h4=>?_) λ h4=>?_
  ·refine ae 3 [.own 2] λ n5=>aaj 0 (.rows 1 1 (aU [S.fog]) 3 (0,0))<|aah (eI 0 4194304 [S.fog] (n5+0) _ (av 0) (aaN rfl))<|ae 2 [] λ _=>aal (eO 0 4194304 [S.fog]) 22 (λ h6=>?_) λ h6=>?_
   ·refine ae 7 [.own 3,.own 3] λ n7=>aaj 0 (.rows 1 2 (aU [S.g.x,S.g.y]) 3 (0,0))<|aah (eI (-16384) 16384 [S.g.x,S.g.y] (n7+0) _ (av 0) (aaN rfl))<|ae 2 [] λ _=>aal (eO (-16384) 16384 [S.g.x,S.g.y]) 32 (λ h8=>?_) λ h8=>?_
    ·refine ae 3 [.own 4] λ n9=>aaj 0 (.rows 1 1 (aU [S.push]) 3 (0,0))<|aah (eI 0 16384 [S.push] (n9+0) _ (av 0) (aaN rfl))<|ae 2 [] λ _=>aal (eO 0 16384 [S.push]) 38 (λ TA=>?_) λ TA=>?_
     ·refine ae 5 [.own 5,.own 5] λ n11=>aaj 0 (.rows 1 2 (aU [S.drag,S.rest]) 3 (0,0))<|aah (eI 0 1024 [S.drag,S.rest] (n11+0) _ (av 0) (aaN rfl))<|ae 2 [] λ _=>aal (eO 0 1024 [S.drag,S.rest]) 46 (λ Sv=>?_) λ Sv=>?_
      ·refine ae 3 [.own 6] λ n13=>aaj 0 (.rows 1 1 (aU [S.rounds]) 3 (0,0))<|aah (eI 1 4 [S.rounds] (n13+0) _ (av 0) (aaN rfl))<|ae 2 [] λ _=>aal (eO 1 4 [S.rounds]) 52 (λ Ty=>?_) λ Ty=>?_
       ·refine ae 3 [.own 7] λ n15=>aaj 0 (.rows 1 1 (aU [S.fuel]) 3 (0,0))<|aah (eI 0 1000 [S.fuel] (n15+0) _ (av 0) (aaN rfl))<|ae 4 [] λ _=>aap [] [] [] (v:=.bool (decide (eO 0 1000 [S.fuel]))) (H':=[]) ?_;exact⟨by simp[jR, *],rfl⟩
       ·refine ae 8 [] λ _=>aap [] [] [] (v:=.bool false) (H':=[]) ?_;exact⟨by simp[jR, *],rfl⟩
      ·refine ae 14 [] λ _=>aap [] [] [] (v:=.bool false) (H':=[]) ?_;exact⟨by simp[jR, *],rfl⟩
     ·refine ae 22 [] λ _=>aap [] [] [] (v:=.bool false) (H':=[]) ?_;exact⟨by simp[jR, *],rfl⟩
    ·refine ae 28 [] λ _=>aap [] [] [] (v:=.bool false) (H':=[]) ?_;exact⟨by simp[jR, *],rfl⟩
   ·refine ae 38 [] λ _=>aap [] [] [] (v:=.bool false) (H':=[]) ?_;exact⟨by simp[jR, *],rfl⟩
  ·refine ae 44 [] λ _=>aap [] [] [] (v:=.bool false) (H':=[]) ?_;exact⟨by simp[jR, *],rfl⟩
 ·refine ae 53 [] λ _=>aap [] [] [] (v:=.bool false) (H':=[]) ?_;exact⟨by simp[jR, *],rfl⟩
def qY(n:Nat)(d:Dr):Prop:=eO 0 ((n:Int)-1) [d.a,d.b] /\ ¬ d.a=d.b
instance (n:Nat) (d:Dr):Decidable (qY n d):=inferInstanceAs (Decidable (_ /\ _))
def mA(S:Setup)(rs:List Bx)(ds:List Dr):Prop:=((S.rn:Int) <= 8 /\ (S.dn:Int) <= 16) /\ (∀k,k<S.rn -> gD (rs.getD k xo.dflt)) /\ ∀k,k<S.dn -> qY S.rn (ds.getD k mS.dflt)
instance (S:Setup) (rs:List Bx) (ds:List Dr):Decidable (mA S rs ds):=inferInstanceAs (Decidable (_ /\ _ /\ _))
theorem G9(S:Setup)(rs:List Bx)(ds:List Dr)(F:HL)(hM:MapIn F S rs ds):Sp Tryz.prog 111 #[(Setup.v S)] [] F (λ u H'=>u=.bool (decide (mA S rs ds)) /\ H'=[]):=by
 refine aat Tryz.func111 rfl mn (A:=[]) (Ts:=[]) rfl λ w0=>?_;refine ae 14 [.own 0] λ n1=>aal ((S.rn:Int)>8) 11 (λ h2=>?_) λ h2=>?_
 ·refine ae 13 [] λ _=>aap [] [] [] (v:=.bool false) (H':=[]) ?_;exact⟨by rw[aco (show ¬ mA S rs ds from λ h_=>by have:=h_.1;omega)],rfl⟩
 ·refine ae 7 [.own 0] λ _=>aal ((S.dn:Int)>16) 16 (λ h3=>?_) λ h3=>?_
  ·refine ae 6 [] λ _=>aap [] [] [] (v:=.bool false) (H':=[]) ?_;exact⟨by rw[aco (show ¬ mA S rs ds from λ h_=>by have:=h_.1;omega)],rfl⟩
  ·refine ae 13 [.own 0] λ _=>aan (σ:=Nat) (λ k=>⟨[(1,vP (n1+0) 0),(18,.slice S.rA S.rn S.rc),(19,vI (S.rn:Int)),(20,vI (k:Int))],[((n1+0),.lit (Setup.l S) 31 (0,0))],[],k <= S.rn /\ ∀t,t<k -> gD (rs.getD t xo.dflt),S.rn-k⟩) 0 [0] [] (⟨aa9 _,λ t ht=>absurd ht (Nat.not_lt_zero _)⟩) ?_;rintro k ⟨hkl,VJ⟩ XF;refine ae 6 [] λ _=>aal ((k:Int)<(S.rn:Int)) 21 (λ h6=>?_) λ h6=>?_
   ·refine ae 7 [] λ _=>?_;obtain⟨qx7,TU,Nx7,fx7,als,ach,aeo,ajZ,ae9⟩:=hM.rooms.at (k:=k) (by omega);refine aN 18 (congrArg (λ v_=>(.slice v_ S.rn S.rc:Value)) ach)<|RN.ro (λ _=>(mc aeo mn))<|aj 2 [.ix k,.rorow 0 (TU+k) 0,.rorow 0 (TU+k) 1,.rorow 0 (TU+k) 2,.rorow 0 (TU+k) 3] [((TU*4+k*4)+3)=(TU+k)*4+3 /\ (TU+k)<Nx7,((TU*4+k*4)+2)=(TU+k)*4+2 /\ (TU+k)<Nx7,((TU*4+k*4)+1)=(TU+k)*4+1 /\ (TU+k)<Nx7,(TU*4+k*4)=(TU+k)*4+0 /\ (TU+k)<Nx7,(k:Int)=((k:Nat):Int) /\ k<S.rn] λ _=>aN 23 (congrArg (λ v_=>(.agg #[vI v_.x0,vI v_.y0,vI v_.x1,vI v_.y1]:Value)) ae9)<|ae 7 (ow 0 8) λ n8=>aah (qX (rs.getD k xo.dflt)  _)<|ae 3 [] λ _=>aam (gD (rs.getD k xo.dflt)) 26 (λ h9=>?_) λ h9=>?_
    ·refine aj 8 [.nw] [bx ((k:Int)+1)] λ _=>aN 18 (congrArg (λ v_=>(.slice v_ S.rn S.rc:Value)) ach.symm) ?_;refine XF (k+1) [1] [] ?_
     try dsimp only
     refine⟨⟨by omega,λ t ht=>?_⟩,by omega⟩;rcases abX t k with h_|h_
     ·exact VJ t h_
     ·obtain rfl:t=k:=by omega
      exact h9
    ·refine ae 6 [] λ _=>aap [] [] [] (v:=.bool false) (H':=[]) ?_;exact⟨by rw[aco (show ¬ mA S rs ds from λ h_=>h9 (h_.2.1 k (by omega)))],rfl⟩
   ·refine ae 16 [.own 0] λ _=>aan (σ:=Nat) (λ j=>⟨[(1,vP (n1+0) 0),(29,.slice S.dA S.dn S.dc),(30,vI (S.dn:Int)),(31,vI (j:Int))],[((n1+0),.lit (Setup.l S) 31 (0,0))],[],j <= S.dn /\ ∀t,t<j -> qY S.rn (ds.getD t mS.dflt),S.dn-j⟩) 0 [0] [] (⟨aa9 _,λ t ht=>absurd ht (Nat.not_lt_zero _)⟩) ?_;rintro j ⟨Ub,YZ⟩ Yg;refine ae 6 [] λ _=>aal ((j:Int)<(S.dn:Int)) 32 (λ Sv=>?_) λ Sv=>?_
    ·refine ae 7 [] λ _=>?_;obtain⟨ai0,TC,acE,alx,ah8,X2,aa6,ahi,abz⟩:=hM.doors.at (k:=j) (by omega);refine aN 29 (congrArg (λ v_=>(.slice v_ S.dn S.dc:Value)) X2)<|RN.ro (λ _=>(mc aa6 mn))<|aj 2 [.ix j,.rorow 0 (TC+j) 0,.rorow 0 (TC+j) 1] [((TC*2+j*2)+1)=(TC+j)*2+1 /\ (TC+j)<acE,(TC*2+j*2)=(TC+j)*2+0 /\ (TC+j)<acE,(j:Int)=((j:Nat):Int) /\ j<S.dn] λ _=>aN 34 (congrArg (λ v_=>(.agg #[vI v_.a,vI v_.b]:Value)) abz)<|aj 15 [.own 0,.own 0,.own 1,.nw,.own 0,.own 0] [bx ((S.rn:Int)-1)] λ ZH=>aaj 0 (.rows 1 2 (aU [(ds.getD j mS.dflt).a,(ds.getD j mS.dflt).b]) 3 (0,0))<|aah (eI 0 ((S.rn:Int)-1) [(ds.getD j mS.dflt).a,(ds.getD j mS.dflt).b] (ZH+1) _ (av 0) (aaN rfl))<|ae 2 [] λ _=>aam (eO 0 ((S.rn:Int)-1) [(ds.getD j mS.dflt).a,(ds.getD j mS.dflt).b]) 46 (λ WI=>?_) λ WI=>?_
     ·refine ae 8 [.own 1,.own 1] λ _=>aal ((ds.getD j mS.dflt).a=(ds.getD j mS.dflt).b) 52 (λ Sf=>?_) λ Sf=>?_
      ·refine ae 6 [] λ _=>aap [] [] [] (v:=.bool false) (H':=[]) ?_;exact⟨by rw[aco (show ¬ mA S rs ds from λ h_=>(h_.2.2 j (by omega)).2 Sf)],rfl⟩
      ·refine aj 8 [.nw] [bx ((j:Int)+1)] λ _=>aN 29 (congrArg (λ v_=>(.slice v_ S.dn S.dc:Value)) X2.symm) ?_;refine Yg (j+1) [2] [] ?_
       try dsimp only
       refine⟨⟨by omega,λ t ht=>?_⟩,by omega⟩;rcases abX t j with h_|h_
       ·exact YZ t h_
       ·obtain rfl:t=j:=by omega
        exact⟨WI,Sf⟩
     ·refine ae 14 [] λ _=>aap [] [] [] (v:=.bool false) (H':=[]) ?_;exact⟨by rw[aco (show ¬ mA S rs ds from λ h_=>WI (h_.2.2 j (by omega)).1)],rfl⟩
    ·refine ae 11 [] λ _=>aap [] [] [] (v:=.bool true) (H':=[]) ?_;exact⟨by rw[acr (show mA S rs ds from ⟨⟨by omega,by omega⟩,λ t ht=>VJ t (by omega),λ t ht=>YZ t (by omega)⟩)],rfl⟩
end Go.Proofs.YtdppjkjbghbnjaaGreatDoor
