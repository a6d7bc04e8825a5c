import Derived.Test.YtdppjkjbghbnjaaGreatDoorZ08
set_option maxHeartbeats 4000000
set_option maxRecDepth 100000
set_option linter.all false
namespace Go.Proofs.YtdppjkjbghbnjaaGreatDoor
open IntKind
open Go.RowKit
def wu(cs:List Int)(i:Nat):List Int:=cs.take i++List.replicate (cs.length-i) 0
theorem tJ(n:Nat):uK [vI 0]=aS (List.replicate n 0):=by
 funext i k;rcases k with _|k
 ·have:(List.replicate n (0:Int)).getD i 0=0:=by
   rw[aaE,List.getElem?_replicate];split <;> rfl
  show vI 0=vI _;rw[this]
 ·simp[uK,aS]
theorem xE(cs:List Int):uK [vI 0]=aS (wu cs 0):=by rw[tJ cs.length];simp[wu]
theorem B9(cs:List Int):wu cs cs.length=cs:=by simp[wu]
theorem xF{cs:List Int}{i:Nat}(h:i<cs.length):dD (aS (wu cs i)) i 0 (vI (cs.getD i 0))=aS (wu cs (i+1)):=by
 rw[fW (by simp[wu];omega)];congr 1;unfold wu;rw[List.set_append_right _ _ (by simp;omega)];have e:cs.length-i=(cs.length-(i+1))+1:=by omega
 rw[e,List.replicate_succ,List.take_succ_eq_append_getElem h,aaD];simp[aaL,Nat.min_eq_left (Nat.le_of_lt h),h]
theorem MemH.len{mb:Nat}{M:MemS}{k:Nat}{T:HL}(h:MemH mb M k T):M.cs.length <= 1000000:=by
 cases h with
 | mk cb A cap Hl hs hc hl=>exact hc
theorem KT(mb cb n:Nat)(A:Option Addr)(m cap:Nat)(base:Int)(F:HL)(hm:(mb,.lit [vS cb 0 n n,.slice A m cap,vI base] 162 (0,0))∈F):Sp Tryz.prog 79 #[vP mb 0] [] F (λ u H'=>u=vI (n:Int) /\ H'=[]):=by
 refine aat Tryz.func79 rfl (mc hm mn) (A:=[]) (Ts:=[]) rfl λ w0=>?_;refine ae 15 [.ro 0] λ _=>?_;exact aap [] [] [] ⟨rfl,rfl⟩
theorem Ca{mb:Nat}{M:MemS}{k:Nat}{T:HL}{F:HL}(h:MemH mb M k T)(hs:∀x∈T,x∈F):Sp Tryz.prog 79 #[vP mb 0] [] F (λ u H'=>u=vI (M.cs.length:Int) /\ H'=[]):=by
 cases h with
 | mk cb A cap Hl Ud hc hl=>exact KT mb cb M.cs.length A M.lg.length cap M.base F (hs _ (by simp))
theorem KU{M:MemS}{i:Nat}(h:i<M.cs.length):M.get (i:Int)=M.cs.getD i 0:=by
 unfold MemS.get;rw[if_pos (by omega),Int.toNat_natCast]
theorem tK(mb:Nat)(M:MemS)(k:Nat)(T F:HL)(hM:MemH mb M k T)(hT:∀x∈T,x∈F):Sp Tryz.prog 56 #[vP mb 0] (ap [] []) F (λ u H'=>∃q,H'=ap [(q,.rows 1 M.cs.length (aS M.cs) 3 (0,0))] [] /\ u=vS q 0 M.cs.length M.cs.length):=by
 have hl:=hM.len;refine aat Tryz.func56 rfl mn (A:=[]) (Ts:=[]) rfl λ w0=>?_;refine ae 8 [] λ _=>aah (Ca hM (λ x hx=>aav _ (hT x hx)))<|ai 8 [.mk M.cs.length M.cs.length] [(M.cs.length:Int)=((M.cs.length:Nat):Int) /\ (M.cs.length:Int)=((M.cs.length:Nat):Int) /\ M.cs.length <= M.cs.length /\ 8*M.cs.length <= 140737488355328 /\ 1=1 /\ M.cs.length <= 9223372036854775807] λ n1=>aah (Ca hM (λ x hx=>aav _ (hT x hx)))<|ae 4 [] λ _=>RN.bv 0 (congrArg (λ v_=>(.rows 1 M.cs.length v_ 3 (0,0):Blk)) (show (uK [vI 0])=(aS (wu M.cs 0)) from (by rw[xE M.cs])))<|aan (σ:=Nat) (λ i=>⟨[(0,vP mb 0),(3,vS (n1+0) 0 M.cs.length M.cs.length),(9,vI (M.cs.length:Int)),(10,vI (i:Int))],[((n1+0),.rows 1 M.cs.length (aS (wu M.cs i)) 3 (0,0))],[],i <= M.cs.length,M.cs.length-i⟩) 0 [0] [] (aaJ _) ?_;rintro i VI R4;refine ae 6 [] λ _=>aal ((i:Int)<(M.cs.length:Int)) 11 (λ h4=>?_) λ h4=>?_
 ·refine ae 16 [] λ _=>aah (az (i:Int) hM (λ x hx=>aav _ (hT x hx)))<|ai 9 [.ix i,.row 0 i 0,.nw] [aZ ((i:Int)+1),(0+i*1)=i*1+0 /\ i<M.cs.length,(i:Int)=((i:Nat):Int) /\ i<M.cs.length] λ _=>RN.bv 0 (congrArg (λ v_=>(.rows 1 M.cs.length v_ 3 (0,0):Blk)) (show (dD (aS (wu M.cs i)) i 0 (vI (M.get (i:Int))))=(aS (wu M.cs (i+1))) from (by rw[<- xF (cs:=M.cs) (i:=i) (by omega)];rw[KU (by omega)]))) ?_;refine R4 (i+1) [0] [] ?_
  try dsimp only
  exact⟨by omega,by omega⟩
 ·refine ae 12 [] λ _=>aap [] [0] [] (v:=vS (n1+0) 0 M.cs.length M.cs.length) (H':=[((n1+0),.rows 1 M.cs.length (aS (wu M.cs i)) 3 (0,0))]) ?_;have ei:i=M.cs.length:=by omega
  subst ei;exact⟨_,by rw[B9];rfl,rfl⟩
theorem KV(q:Nat)(cs:List Int)(k cap:Nat)(F:HL)(hq:(q,.rows 1 cs.length (aS cs) 3 (0,0))∈F)(hc:cs.length <= 1000000)(hk:k <= 100000000)(hcap:cs.length <= cap):Sp Tryz.prog 87 #[vS q 0 cs.length cap] [] F (λ u H'=>∃x:Nat × HL,H'=ap [] [x.2] /\ (u=vP x.1 0 /\ MemH x.1 ⟨cs,[],0⟩ k x.2)):=by
 refine aat Tryz.func87 rfl (mc hq mn) (A:=[]) (Ts:=[]) rfl λ w0=>?_;refine ai 24 [.mk cs.length cs.length] [(cs.length:Int)=((cs.length:Nat):Int) /\ (cs.length:Int)=((cs.length:Nat):Int) /\ cs.length <= cs.length /\ 8*cs.length <= 140737488355328 /\ 1=1 /\ cs.length <= 9223372036854775807] λ n1=>RN.bv 1 (congrArg (λ v_=>(.rows 1 cs.length v_ 3 (0,0):Blk)) (show (uK [vI 0])=(aS (wu cs 0)) from (by rw[xE cs])))<|aan (σ:=Nat) (λ i=>⟨[(0,vS q 0 cs.length cap),(3,vP (n1+1) 0),(11,vI (cs.length:Int)),(12,vI (i:Int))],[((n1+1),.lit [vS (n1+0) 0 cs.length cs.length,.slice none 0 0,vI 0] 162 (0,0)),((n1+0),.rows 1 cs.length (aS (wu cs i)) 3 (0,0))],[],i <= cs.length,cs.length-i⟩) 0 [0,1] [] (aaJ _) ?_;rintro i VI R4;refine ae 6 [] λ _=>aal ((i:Int)<(cs.length:Int)) 13 (λ h4=>?_) λ h4=>?_
 ·refine ae 11 [] λ _=>aak [10] []<|aw [] [0,4,5,6,1,7,2,8,3,9] [.ix i,.rorow 0 i 0,.own 0,.ix i] [(i:Int)=((i:Nat):Int) /\ i<cs.length,(0+i*1)=i*1+0 /\ i<cs.length,(i:Int)=((i:Nat):Int) /\ i<cs.length]<|aae 10 (fU [] [.row 1 i 0] [(0+i*1)=i*1+0 /\ i<cs.length] λ _=>?_);refine aad<|ai 6 [.nw] [aZ ((i:Int)+1)] λ _=>RN.bv 1 (congrArg (λ v_=>(.rows 1 cs.length v_ 3 (0,0):Blk)) (show (dD (aS (wu cs i)) i 0 (vI (cs.getD i 0)))=(aS (wu cs (i+1))) from (by rw[<- xF (cs:=cs) (i:=i) (by omega)]))) ?_;refine R4 (i+1) [0,1] [] ?_
  try dsimp only
  exact⟨by omega,by omega⟩
 ·refine ae 12 [] λ _=>aap [] [0,1] [] (v:=vP (n1+1) 0) (H':=[((n1+1),.lit [vS (n1+0) 0 cs.length cs.length,.slice none 0 0,vI 0] 162 (0,0)),((n1+0),.rows 1 cs.length (aS (wu cs i)) 3 (0,0))]) ?_;have ei:i=cs.length:=by omega
  subst ei;rw[B9];have hmm:=MemH.mk (mb:=(n1+1)) (M:=⟨cs,[],0⟩) (k:=k) (n1+0) none 0 [] (aas _ _) hc (show ([]:List (Int × Int)).length+k <= 100000000 by simpa using hk);exact⟨((n1+1),_),rfl,rfl,hmm⟩
def aq(n R9:Int):Int:=(if n<0 then bd (0-bd (n+1)) else n).tmod R9
theorem fL(n:Int)(R9:Int)(h0:R9≠0)(F:HL):Sp Tryz.prog 11 #[vI n,vI R9] [] F (λ u H'=>u=vI (aq n R9) /\ H'=[]):=by
 refine aat Tryz.func11 rfl mn (A:=[]) (Ts:=[]) rfl λ w0=>?_;refine ae 12 [] λ _=>aal (n<0) 6 (λ h1=>?_) λ h1=>?_
 ·refine qF 16 [.gen,.dv] (λ _=>[R9≠0]) (λ _=>(ac h0 an)) λ _=>aap [] [] [] (v:=vI ((i64.wrap (0-(i64.wrap (n+1)))).tmod R9)) (H':=[]) ?_;exact⟨by unfold aq;simp[*],rfl⟩
 ·refine qF 11 [.dv] (λ _=>[R9≠0]) (λ _=>(ac h0 an)) λ _=>aap [] [] [] (v:=vI (n.tmod R9)) (H':=[]) ?_;exact⟨by unfold aq;simp[*],rfl⟩
def qV(n:Int):Int:=aq n 1000
def oM(n:Int):Int:=bd (512*bd (1+(bd ((qV n).tdiv 7)).tmod 5))
def sI(r:Int):List V2:=[⟨bd (0-r),bd (0-r)⟩,⟨r,bd (0-r)⟩,⟨r,r⟩,⟨bd (0-r),r⟩]
def xG(r:Int):List V2:=[⟨bd (0-r),bd (0-r)⟩,⟨r,bd (0-r)⟩,⟨0,r⟩]
def xH(r:Int):List V2:=[⟨bd (-2*r),-300⟩,⟨bd (2*r),-300⟩,⟨bd (2*r),300⟩,⟨bd (-2*r),300⟩]
def cS(n:Int):Int × List V2:=if (qV n).tmod 7=0 then (oM n,[]) else if (qV n).tmod 7=1 then (oM n,[]) else if (qV n).tmod 7=2 then (oM n,[]) else if (qV n).tmod 7=3 then (0,sI (oM n)) else if (qV n).tmod 7=4 then (0,sI (oM n)) else if (qV n).tmod 7=5 then (0,xG (oM n)) else (0,xH (oM n))
def ShH(s:Shp)(T:HL):Prop:=∀F,(∀x∈T,x∈F) -> ShIn F s
theorem ShH.circle(r:Int)(A:Option Addr)(cap:Nat):ShH ⟨r,[],A,cap⟩ []:=λ F _=>.circle r A cap
theorem ShH.poly(r:Int)(l:List V2)(b cap:Nat)(h3:3 <= l.length)(h4:l.length <= cap)(h5:l.length <= 1000000):ShH ⟨r,l,some ⟨b,0,none⟩,cap⟩ [(b,.rows 2 cap (jP l) 29 (0,0))]:=λ F h=>.poly r l b cap (h _ (by simp)) h3 h4 h5
theorem xI(n:Int)(F:HL):Sp Tryz.prog 40 #[vI n] [] F (λ u H'=>∃x:Option Addr × Nat × HL,H'=ap [] [x.2.2] /\ (u=OL ⟨(cS n).1,(cS n).2,x.1,x.2.1⟩ /\ ShH ⟨(cS n).1,(cS n).2,x.1,x.2.1⟩ x.2.2)):=by
 refine aat Tryz.func40 rfl mn (A:=[]) (Ts:=[]) rfl λ w0=>?_;refine ae 8 [] λ n1=>aah (fL n 1000 (by decide) _)<|ae 28 [] λ _=>aal ((qV n).tmod 7=0) 14 (λ h2=>?_) λ h2=>?_
 ·refine ae 11 (aab 2) λ _=>aap (aab 2) [] [] (v:=.agg #[vI (i64.wrap (512*(i64.wrap (1+((i64.wrap ((qV n).tdiv 7)).tmod 5))))),.slice none 0 0]) (H':=[]) ?_;have e:cS n=(oM n,[]):=by simp only[cS,if_pos h2]
  rw[e];exact⟨(none,0,[]),rfl,rfl,ShH.circle _ _ _⟩
 ·refine ae 7 [] λ _=>aal ((qV n).tmod 7=1) 14 (λ h3=>?_) λ h3=>?_
  ·refine ae 11 (aab 2) λ _=>aap (aab 2) [] [] (v:=.agg #[vI (i64.wrap (512*(i64.wrap (1+((i64.wrap ((qV n).tdiv 7)).tmod 5))))),.slice none 0 0]) (H':=[]) ?_;have e:cS n=(oM n,[]):=by simp only[cS,if_neg h2,if_pos h3]
   rw[e];exact⟨(none,0,[]),rfl,rfl,ShH.circle _ _ _⟩
  ·refine ae 6 [] λ _=>aal ((qV n).tmod 7=2) 14 (λ h4=>?_) λ h4=>?_
   ·refine ae 8 (aab 2) λ _=>aap (aab 2) [] [] (v:=.agg #[vI (i64.wrap (512*(i64.wrap (1+((i64.wrap ((qV n).tdiv 7)).tmod 5))))),.slice none 0 0]) (H':=[]) ?_;have e:cS n=(oM n,[]):=by simp only[cS,if_neg h2,if_neg h3,if_pos h4]
    rw[e];exact⟨(none,0,[]),rfl,rfl,ShH.circle _ _ _⟩
   ·refine ae 8 [] λ _=>aal ((qV n).tmod 7=3) 20 (λ h5=>?_) λ h5=>?_
    ·refine ae 27 [.own 1,.own 1] λ n6=>aaj 0 (.rows 2 4 (jP (sI (oM n))) 29 (0,0))<|aap [.own 1,.own 1] [0] [] (v:=.agg #[vI 0,vS (n6+0) 0 4 4]) (H':=[((n6+0),.rows 2 4 (jP (sI (oM n))) 29 (0,0))]) ?_;have e:cS n=(0,sI (oM n)):=by simp only[cS,if_neg h2,if_neg h3,if_neg h4,if_pos h5]
     rw[e];exact⟨(some ⟨(n6+0),0,none⟩,4,_),rfl,rfl,ShH.poly 0 (sI (oM n)) (n6+0) 4 (aaF rfl) (aaF rfl) (aaF rfl)⟩
    ·refine ae 6 [] λ _=>aal ((qV n).tmod 7=4) 20 (λ h7=>?_) λ h7=>?_
     ·refine ae 24 [.own 1,.own 1] λ n8=>aaj 0 (.rows 2 4 (jP (sI (oM n))) 29 (0,0))<|aap [.own 1,.own 1] [0] [] (v:=.agg #[vI 0,vS (n8+0) 0 4 4]) (H':=[((n8+0),.rows 2 4 (jP (sI (oM n))) 29 (0,0))]) ?_;have e:cS n=(0,sI (oM n)):=by simp only[cS,if_neg h2,if_neg h3,if_neg h4,if_neg h5,if_pos h7]
      rw[e];exact⟨(some ⟨(n8+0),0,none⟩,4,_),rfl,rfl,ShH.poly 0 (sI (oM n)) (n8+0) 4 (aaF rfl) (aaF rfl) (aaF rfl)⟩
     ·refine ae 7 [] λ _=>aal ((qV n).tmod 7=5) 41 (λ h9=>?_) λ h9=>?_
      ·refine ae 19 [.own 1,.own 1] λ TI=>aaj 0 (.rows 2 3 (jP (xG (oM n))) 29 (0,0))<|aap [.own 1,.own 1] [0] [] (v:=.agg #[vI 0,vS (TI+0) 0 3 3]) (H':=[((TI+0),.rows 2 3 (jP (xG (oM n))) 29 (0,0))]) ?_;have e:cS n=(0,xG (oM n)):=by simp only[cS,if_neg h2,if_neg h3,if_neg h4,if_neg h5,if_neg h7,if_pos h9]
       rw[e];exact⟨(some ⟨(TI+0),0,none⟩,3,_),rfl,rfl,ShH.poly 0 (xG (oM n)) (TI+0) 3 (aaF rfl) (aaF rfl) (aaF rfl)⟩
      ·refine ae 23 [.own 1,.own 1] λ n11=>aaj 0 (.rows 2 4 (jP (xH (oM n))) 29 (0,0))<|aap [.own 1,.own 1] [0] [] (v:=.agg #[vI 0,vS (n11+0) 0 4 4]) (H':=[((n11+0),.rows 2 4 (jP (xH (oM n))) 29 (0,0))]) ?_;have e:cS n=(0,xH (oM n)):=by simp only[cS,if_neg h2,if_neg h3,if_neg h4,if_neg h5,if_neg h7,if_neg h9]
       rw[e];exact⟨(some ⟨(n11+0),0,none⟩,4,_),rfl,rfl,ShH.poly 0 (xH (oM n)) (n11+0) 4 (aaF rfl) (aaF rfl) (aaF rfl)⟩
theorem oN{S:Setup}(h:SetN S){i:Nat}(hi:i<S.nb):0 <= af S i /\ af S i+8 <= sizeOf S /\ sizeOf S <= 20000000:=by
 have:=h.pl;have:=h.nb;unfold af sizeOf;rw[if_neg (by omega),if_neg (by omega)];omega
theorem Em{S:Setup}(h:SetN S):48 <= sizeOf S /\ sizeOf S <= 20000000:=by
 have:=h.pl;have:=h.nb;unfold sizeOf;omega
def bm(S:Setup):Nat -> List Int
 | 0=>List.replicate (sizeOf S).toNat 0
 | i+1=>((((((bm S i).set (af S i).toNat (S.body i).mot.px).set (af S i+1).toNat (S.body i).mot.py).set (af S i+2).toNat (S.body i).mot.vx).set (af S i+3).toNat (S.body i).mot.vy).set (af S i+4).toNat (S.body i).a).set (af S i+5).toNat (S.body i).b
theorem jT(S:Setup):∀i,(bm S i).length=(sizeOf S).toNat
 | 0=>by simp[bm]
 | i+1=>by simp[bm,jT S i]
theorem Eo{S:Setup}(h:SetN S){i:Nat}(hi:i<S.nb):dD (dD (dD (dD (dD (dD (aS (bm S i)) (af S i).toNat 0 (vI (S.body i).mot.px)) (af S i+1).toNat 0 (vI (S.body i).mot.py)) (af S i+2).toNat 0 (vI (S.body i).mot.vx)) (af S i+3).toNat 0 (vI (S.body i).mot.vy)) (af S i+4).toNat 0 (vI (S.body i).a)) (af S i+5).toNat 0 (vI (S.body i).b)=aS (bm S (i+1)):=by
 have:=oN h hi;rw[fW,fW,fW,fW,fW,fW,bm] <;> (simp only[List.length_set,jT];omega)
def Ao:Enc Int:=⟨1,λ p k=>match k with|0=>vI p|_=>vI p,0⟩
noncomputable def Ms:TypeInfo:=match Tryz.prog.info? 3 with | some i=>i | none=>⟨.bool,"",0,0,false,0,0,none,false,#[]⟩
noncomputable def Mt:Value:=match Ms.zero with|some z=>z|none=>.bool false
theorem Hs:EncOk Ao Tryz.prog 3 Ms Mt where
 info:=by kernel_rfl
 zero:=by kernel_rfl
 size:=by kernel_rfl
 zsize:=by kernel_rfl
 zcell:=λ k hk=>by
  have h:∀k<1,Mt.cells[k]?=some (Ao.cell Ao.dflt k):=by intro k hk;(iterate 1 (rcases k with _|k;· kernel_rfl));omega
  exact h k hk
 one:=λ x k=>by unfold Ao;dsimp only;split <;> rfl
 bytes:=aaF (by kernel_rfl)
abbrev lq(n:Int):Prop:=-9223372036854775808 <= n /\ n <= 9223372036854775807
theorem bK{n:Int}(hn:lq n)(R9:Int)(h:0<R9):0 <= aq n R9 /\ aq n R9<R9:=by
 unfold aq;have hx:0 <= (if n<0 then bd (0-bd (n+1)) else n):=by
  split
  ·rw[dg (x:=n+1) (by omega),dg (by omega)];omega
  ·omega
 exact⟨Int.tmod_nonneg _ hx,Int.tmod_lt_of_pos _ h⟩
inductive ArgL(F:HL):Option Addr -> Nat -> List Int -> Prop
 | zero (A:Option Addr):ArgL F A 0 []
 | cells (q o N:Nat) (g:Nat -> Nat -> Value) (ty:TypeId) (fz:Nat × Nat) (xs:List Int) (hq:(q,.rows 1 N g ty fz)∈F) (ho:o+xs.length <= N) (hx:∀k,k<xs.length -> g (o+k) 0=vI (xs.getD k 0)) (hb:∀k,k<xs.length -> lq (xs.getD k 0)):ArgL F (some ⟨q,o,none⟩) xs.length xs
theorem ArgL.up{F X:HL}{A:Option Addr}{n:Nat}{xs:List Int}(h:ArgL F A n xs):ArgL (X++F) A n xs:=by
 cases h with
 | zero=>exact .zero _
 | cells q o N g ty fz xs hq ho hx hb=>exact .cells q o N g ty fz xs (aav _ hq) ho hx hb
theorem ArgL.len{F:HL}{A:Option Addr}{n:Nat}{xs:List Int}(h:ArgL F A n xs):xs.length=n:=by
 cases h <;> rfl
theorem ArgL.at{F:HL}{A:Option Addr}{n:Nat}{xs:List Int}(h:ArgL F A n xs){k:Nat}(hk:k<n):∃q o N g ty fz,A=some ⟨q,o,none⟩ /\ (q,.rows 1 N g ty fz)∈F /\ o+k<N /\ g (o+k) 0=vI (xs.getD k 0) /\ lq (xs.getD k 0):=by
 cases h with
 | zero=>omega
 | cells q o N g ty fz xs hq ho hx hb=>exact⟨q,o,N,g,ty,fz,rfl,hq,by omega,hx k hk,hb k hk⟩
def kv(xs:List Int)(i:Nat):Int:=if i<xs.length then aq (xs.getD i 0) 1000000 else 0
theorem im{F:HL}{A:Option Addr}{n:Nat}{xs:List Int}(h:ArgL F A n xs)(i:Nat):0 <= kv xs i /\ kv xs i<1000000:=by
 unfold kv;split
 ·next hi =>
  rw[h.len] at hi;obtain⟨_,_,_,_,_,_,_,_,_,_,hr⟩:=h.at hi;exact bK hr 1000000 (by decide)
 ·omega
def ks(xs:List Int)(n:Nat):List Int:=(List.range n).map (kv xs)
theorem mX(xs:List Int)(n:Nat):(ks xs n).length=n:=by simp[ks]
theorem Cb(xs:List Int)(n:Nat):ks xs (n+1)=ks xs n++[kv xs n]:=by simp[ks,List.range_succ]
theorem NI{xs:List Int}{n i:Nat}(h:i<n):(ks xs n).getD i 0=kv xs i:=by simp[ks,h]
structure Dr where (a b:Int)
def mt:Enc V2:=⟨2,λ p k=>match k with|0=>vI p.x|_=>vI p.y,⟨0,0⟩⟩
noncomputable def Mu:TypeInfo:=match Tryz.prog.info? 29 with | some i=>i | none=>⟨.bool,"",0,0,false,0,0,none,false,#[]⟩
noncomputable def Mv:Value:=match Mu.zero with|some z=>z|none=>.bool false
theorem Ht:EncOk mt Tryz.prog 29 Mu Mv where
 info:=by kernel_rfl
 zero:=by kernel_rfl
 size:=by kernel_rfl
 zsize:=by kernel_rfl
 zcell:=λ k hk=>by
  have h:∀k<2,Mv.cells[k]?=some (mt.cell mt.dflt k):=by intro k hk;(iterate 2 (rcases k with _|k;· kernel_rfl));omega
  exact h k hk
 one:=λ x k=>by unfold mt;dsimp only;split <;> rfl
 bytes:=aaF (by kernel_rfl)
def xJ:Enc Bx:=⟨4,λ p k=>match k with|0=>vI p.x0|1=>vI p.y0|2=>vI p.x1|_=>vI p.y1,⟨0,0,0,0⟩⟩
noncomputable def PA:TypeInfo:=match Tryz.prog.info? 25 with | some i=>i | none=>⟨.bool,"",0,0,false,0,0,none,false,#[]⟩
noncomputable def PC:Value:=match PA.zero with|some z=>z|none=>.bool false
theorem Mw:EncOk xJ Tryz.prog 25 PA PC where
 info:=by kernel_rfl
 zero:=by kernel_rfl
 size:=by kernel_rfl
 zsize:=by kernel_rfl
 zcell:=λ k hk=>by
  have h:∀k<4,PC.cells[k]?=some (xJ.cell xJ.dflt k):=by intro k hk;(iterate 4 (rcases k with _|k;· kernel_rfl));omega
  exact h k hk
 one:=λ x k=>by unfold xJ;dsimp only;split <;> rfl
 bytes:=aaF (by kernel_rfl)
def mY:Enc Dr:=⟨2,λ p k=>match k with|0=>vI p.a|_=>vI p.b,⟨0,0⟩⟩
noncomputable def PD:TypeInfo:=match Tryz.prog.info? 81 with | some i=>i | none=>⟨.bool,"",0,0,false,0,0,none,false,#[]⟩
noncomputable def PE:Value:=match PD.zero with|some z=>z|none=>.bool false
theorem Mx:EncOk mY Tryz.prog 81 PD PE where
 info:=by kernel_rfl
 zero:=by kernel_rfl
 size:=by kernel_rfl
 zsize:=by kernel_rfl
 zcell:=λ k hk=>by
  have h:∀k<2,PE.cells[k]?=some (mY.cell mY.dflt k):=by intro k hk;(iterate 2 (rcases k with _|k;· kernel_rfl));omega
  exact h k hk
 one:=λ x k=>by unfold mY;dsimp only;split <;> rfl
 bytes:=aaF (by kernel_rfl)
structure MapIn(F:HL)(S:Setup)(rs:List Bx)(ds:List Dr):Prop where
 rooms:RowL xJ 25 F S.rA S.rn rs
 doors:RowL mY 81 F S.dA S.dn ds
theorem MapIn.up{F X:HL}{S:Setup}{rs:List Bx}{ds:List Dr}(h:MapIn F S rs ds):MapIn (X++F) S rs ds:=⟨h.rooms.up,h.doors.up⟩
abbrev vq:List Bx:=[⟨-12000,-9000,-1,9000⟩,⟨0,0,12000,9000⟩,⟨0,-9000,12000,-1⟩]
abbrev lr(i:Nat):List Dr:=match i with|0=>[]|1=>[⟨0,1⟩]|_=>[⟨0,2⟩,⟨1,2⟩]
def ClS{α:Type}(e:Enc α)(T:TypeId)(xs:List α)(A':Option Addr)(c':Nat)(Hl:HL):Prop:=∃A0,NewS e T xs A0 A' c' Hl
theorem ClS.rowL{α:Type}{e:Enc α}{T:TypeId}{xs:List α}{A':Option Addr}{c':Nat}{Hl:HL}(h:ClS e T xs A' c' Hl){F:HL}(hF:∀x∈Hl,x∈F):RowL e T F A' xs.length xs:=h.elim λ _ h=>h.rowL hF
theorem ClS.nil{α:Type}(e:Enc α)(T:TypeId)(A:Option Addr):ClS e T [] A 0 []:=⟨A,.inl ⟨rfl,rfl,rfl,rfl⟩⟩
def KW(xs:List Int):Int:=1+kv xs 0 % 3
def qW(xs:List Int):Int:=KW xs+kv xs 3 / 3 % 3
def bN(xs:List Int)(i:Nat):Int:=kv xs (4+2*i)
def bM(xs:List Int)(i:Nat):Int:=kv xs (5+2*i)
def tL(xs:List Int)(i:Nat)(A:Option Addr)(c:Nat):Bod:=⟨⟨(cS (bN xs i)).1,(cS (bN xs i)).2,A,c⟩,⟨((((bN xs i) / 1000) % 13)-6)*900,((((bM xs i) / 50) % 11)-5)*800,((((bM xs i) / 550) % 9)-4)*300,((((bN xs i) / 13000) % 9)-4)*300,([1024,1024,512,2048,0]:List Int).getD (((bM xs i) / 5000) % 5).toNat 0⟩,(bM xs i) % 50,(bN xs i) % 7⟩
def xK(a b c:Nat)(i:Nat):Option Addr:=match i with|0=>some ⟨a,0,none⟩|1=>some ⟨b,0,none⟩|_=>some ⟨c,0,none⟩
def jU(i:Nat):Nat:=match i with|0=>0|1=>1|_=>2
def Cc(a b c:Nat):Nat -> Nat -> Value:=λ i _=>.slice (xK a b c i) (jU i) (jU i)
theorem vt{F:HL}{A:Option Addr}{n:Nat}{xs:List Int}(h:ArgL F A n xs):1 <= KW xs /\ KW xs <= 3:=by
 have:=im h 0;unfold KW;omega
theorem qt{F:HL}{A:Option Addr}{n:Nat}{xs:List Int}(h:ArgL F A n xs):1 <= qW xs /\ qW xs <= 5 /\ KW xs <= qW xs:=by
 have:=im h 0;have:=im h 3;unfold qW KW;omega
theorem Hu{xs rest:List Int}{n i:Nat}(h:i<n):(ks xs n++rest).getD i 0=kv xs i:=by
 rw[aaE,aaP (by rw[mX];exact h),<- aaE,NI h]
theorem qX{α:Type}{l r:List α}{i:Nat}{d:α}(h:i<l.length):(l++r).getD i d=l.getD i d:=by
 rw[aaE,aaP h,<- aaE]
theorem tM{α:Type}{l:List α}{x d:α}:(l++[x]).getD l.length d=x:=by simp
theorem ShH.left{s:Shp}{T X:HL}(h:ShH s T):ShH s (T++X):=λ F hF=>h F λ x hx=>hF x (aax _ hx)
theorem ShH.right{s:Shp}{T X:HL}(h:ShH s X):ShH s (T++X):=λ F hF=>h F λ x hx=>hF x (aav _ hx)
theorem Ap{F:HL}{a b c:Nat}(hb:(b,.rows 2 1 (aP mY (lr 1)) 81 (0,0))∈F)(hc:(c,.rows 2 2 (aP mY (lr 2)) 81 (0,0))∈F):∀i:Nat,RowL mY 81 F (xK a b c i) (jU i) (lr i)
 | 0=>.zero _
 | 1=>RowL.whole (xs:=lr 1) hb (aaI _)
 | _+2=>RowL.whole (xs:=lr 2) hc (aaI _)
structure SetG(xs:List Int)(S:Setup)(T:HL):Prop where
 pl:S.players=KW xs
 nb:(S.nb:Int)=qW xs
 bo:S.bo=0
 cap:S.nb <= S.bc
 room:S.bo+S.nb <= S.bR
 nums:S.box=⟨-12000,-9000,12000,9000⟩ /\ S.fog=4000+(kv xs 1 % 9)*1000 /\ S.g=⟨0,(-((kv xs 2 / 36) % 3))*40⟩ /\ S.push=((kv xs 1 / 9) % 5)*100 /\ S.drag=(kv xs 2 % 4)*100 /\ S.rest=((kv xs 2 / 4) % 3)*512 /\ S.rounds=1+(kv xs 2 / 12) % 3 /\ S.fuel=60
 bod:∀j,j<S.nb -> ∃A c,S.body j=tL xs j A c
 sin:∀F,(S.bb,.rows 9 S.bR (mm S.bods) 90 (0,0))∈F -> (∀x∈T,x∈F) -> SetIn F S
 maps:(S.rn=3 /\ S.dn=jU (kv xs 3 % 3).toNat) /\ ∀F,(∀x∈T,x∈F) -> MapIn F S vq (lr (kv xs 3 % 3).toNat)
theorem Ep(A:Option Addr)(n cap:Nat)(xs:List Int)(F:HL)(hl:ArgL F A n xs)(hn:n <= 9223372036854775807):Sp Tryz.prog 10 #[.slice A n cap] (ap [] []) F (λ u H'=>∃x:Setup × HL,H'=ap [(x.1.bb,.rows 9 x.1.bR (mm x.1.bods) 90 (0,0))] [x.2] /\ (u=Setup.v x.1 /\ SetG xs x.1 x.2)):=by
 refine aat Tryz.func10 rfl mn (A:=[]) (Ts:=[]) rfl λ w0=>?_;refine ae 17 [] λ n1=>aao<|aan (σ:=Nat × Option Addr × Nat × HL) (λ ⟨i,A_,c_,T_⟩=>⟨[(0,.slice A n cap),(2,vP (n1+0) 0),(3,.slice A_ i c_),(4,vI (i:Int))],[((n1+0),.lit [vI 0,.slice none 0 0,vI 0,vI 0,vI 0,vI 0,.slice none 0 0,.slice none 0 0,vI 0,vI 0,vI 0,vI 0,vI 0,vI 0,vI 0,vI 0] 31 (0,0))],[T_],i <= 24 /\ SlIs Ao 3 (ks xs i) A_ c_ T_ /\ bA A_,24-i⟩) (0,none,0,[]) [0] [0] (⟨aaJ _,aas _ _,trivial⟩) ?_;rintro⟨i,A_,c_,T_⟩ ⟨Wk,RL,Vq⟩ R4;refine ae 7 [] λ _=>aal ((i:Int)<24) 12 (λ h4=>?_) λ h4=>?_
 ·refine ae 19 [] λ _=>aal ((i:Int)<(n:Int)) 18 (λ h5=>?_) λ h5=>?_
  ·refine ae 4 [] λ _=>?_;obtain⟨qx6,Va,Nx6,gx6,aeC,adx,WT,Wc,ab0,Wn,Zk⟩:=hl.at (k:=i) (by omega);refine aK 19 (congrArg (λ v_=>(.slice v_ n cap:Value)) WT)<|RN.ro (λ _=>(mc Wc mn))<|ai 2 [.ix i,.rorow 0 (Va+i) 0] [(Va+i*1)=(Va+i)*1+0 /\ (Va+i)<Nx6,(i:Int)=((i:Nat):Int) /\ i<n] λ _=>aK 22 (congrArg (λ v_=>(v_:Value)) Wn)<|aah (fL (xs.getD i 0) 1000000 (by decide) _) ?_;have hA7:=bK (n:=xs.getD i 0) Zk 1000000 (by decide);refine ae 7 [] λ n8=>iW Hs (ks xs i) [aq (xs.getD i 0) 1000000] 0 0 (mX xs i).symm RL (by rw[mX];show i+1 <= 100000000;omega) ?_;rintro A9 YR RM ⟨Zj,abl⟩;refine ai 9 [.nw] [aZ ((i:Int)+1)] λ _=>?_;have V0:=abl Vq;refine R4 (i+1,A9,YR,RM) [1] [0] ?_
   try dsimp only
   refine⟨⟨by omega,?_,V0⟩,by omega⟩;rw[Cb,show kv xs i=_ from by unfold kv;rw[if_pos (by rw[hl.len];omega)]];exact Zj
  ·refine ae 7 [] λ n14=>iW Hs (ks xs i) [0] 0 0 (mX xs i).symm RL (by rw[mX];show i+1 <= 100000000;omega) ?_;rintro A15 c16 SC ⟨SL,Y1⟩;refine ai 9 [.nw] [aZ ((i:Int)+1)] λ _=>?_;have V0:=Y1 Vq;refine R4 (i+1,A15,c16,SC) [1] [0] ?_
   try dsimp only
   refine⟨⟨by omega,?_,V0⟩,by omega⟩;rw[Cb,show kv xs i=_ from by unfold kv;rw[if_neg (by rw[hl.len];omega)]];exact SL
 ·refine ae 7 [] λ _=>?_;have ei:i=24:=by omega
  subst ei;obtain⟨kb,rest,rfl,rfl,Ut⟩:=RL.open0 Vq (by decide) (by rw[mX];decide);have hcap:24 <= c_:=by rw[mX] at Ut;exact Ut
  refine wK 0 (x:=(kb,.rows 1 c_ (aP Ao (ks xs 24++rest)) 3 (0,0))) ?_;have ZA:=im hl 0;have S9:=im hl 1;have UE:=im hl 2;have hk3:=im hl 3;have hse:qW xs=1+kv xs 0 % 3+kv xs 3 / 3 % 3:=rfl;have hsc:=qt hl;have Vc:=vt hl;refine aak [37] []<|aw [] [0,5,6,12,18,23,29,1,7,13,19,24,30,2,8,14,20,25,31,3,9,15,21,26,32,4,10,16,22,27,33,11,17,28,34,35] [.row 0 0 0,.row 0 1 0,.row 0 1 0,.row 0 2 0,.row 0 2 0,.row 0 2 0,.nw,.nw,.nw,.nw,.nw,.nw,.nw,.nw,.nw,.nw,.nw,.nw,.nw,.nw,.nw,.nw] [aZ (1+(((kv xs 2) / 12) % 3)),aZ ((((kv xs 2) / 4) % 3)*512),aZ ((((kv xs 1) / 9) % 5)*100),aZ (4000+(((kv xs 1) % 9)*1000)),0 <= (kv xs 2) / 12 /\ (0:Int)<3 /\ (kv xs 2) / 12 <= 9223372036854775807,0 <= (kv xs 2) / 4 /\ (0:Int)<3 /\ (kv xs 2) / 4 <= 9223372036854775807,aZ (((kv xs 2) % 4)*100),0 <= (kv xs 1) / 9 /\ (0:Int)<5 /\ (kv xs 1) / 9 <= 9223372036854775807,aZ (((kv xs 1) % 9)*1000),aZ (1+((kv xs 0) % 3)),0 <= kv xs 2 /\ (0:Int)<12 /\ kv xs 2 <= 9223372036854775807,0 <= kv xs 2 /\ (0:Int)<4 /\ kv xs 2 <= 9223372036854775807,0 <= kv xs 2 /\ (0:Int)<4 /\ kv xs 2 <= 9223372036854775807,0 <= kv xs 1 /\ (0:Int)<9 /\ kv xs 1 <= 9223372036854775807,0 <= kv xs 1 /\ (0:Int)<9 /\ kv xs 1 <= 9223372036854775807,0 <= kv xs 0 /\ (0:Int)<3 /\ kv xs 0 <= 9223372036854775807,2=2*1+0 /\ 2<c_,2=2*1+0 /\ 2<c_,2=2*1+0 /\ 2<c_,1=1*1+0 /\ 1<c_,1=1*1+0 /\ 1<c_,0=0*1+0 /\ 0<c_]<|aae 36 (aag [] [] λ Vp=>?_);refine aae 37 (aag [] (ow 0 16) λ _=>?_);refine aad<|ai 38 [.row 1 2 0,.nw,.nw,.nw,.nw,.own 0,.own 0,.own 1,.row 6 3 0,.nw] [0 <= kv xs 3 /\ (0:Int)<3 /\ kv xs 3 <= 9223372036854775807,3=3*1+0 /\ 3<c_,aZ ((-(((kv xs 2) / 36) % 3))*40),-9223372036854775807 <= ((kv xs 2) / 36) % 3 /\ ((kv xs 2) / 36) % 3 <= 9223372036854775808,0 <= (kv xs 2) / 36 /\ (0:Int)<3 /\ (kv xs 2) / 36 <= 9223372036854775807,0 <= kv xs 2 /\ (0:Int)<36 /\ kv xs 2 <= 9223372036854775807,2=2*1+0 /\ 2<c_] λ RK=>aaj 0 (.rows 1 3 (Cc (RK+1) (RK+2) (RK+3)) 27 (0,0))<|ai 13 [.ix (((kv xs 3) % 3).toNat),.row 0 (((kv xs 3) % 3).toNat) 0,.own 5] [(0+(((kv xs 3) % 3).toNat)*1)=(((kv xs 3) % 3).toNat)*1+0 /\ (((kv xs 3) % 3).toNat)<3,(kv xs 3) % 3=((((kv xs 3) % 3).toNat:Nat):Int) /\ ((kv xs 3) % 3).toNat<3] λ _=>aao<|aao<|aan (σ:=Nat × List Bod × Option Addr × Nat × HL × HL) (λ ⟨j,bods,B_,d_,V_,U_⟩=>⟨[(2,vP (n1+0) 0),(3,vS kb 0 24 c_),(6,vP (Vp+0) 0),(7,vI (j:Int))],[((RK+4),.rows 1 3 (Cc (RK+1) (RK+2) (RK+3)) 27 (0,0)),((RK+3),.lit [vI 0,vI 2,vI 1,vI 2] 81 (0,0)),((RK+2),.lit [vI 0,vI 1] 81 (0,0)),((RK+1),.lit [] 81 (0,0)),((RK+0),.lit [vI (-12000),vI (-9000),vI (-1),vI 9000,vI 0,vI 0,vI 12000,vI 9000,vI 0,vI (-9000),vI 12000,vI (-1)] 25 (0,0)),((Vp+0),.lit [vI (1+((kv xs 0) % 3)),.slice B_ j d_,vI (-12000),vI (-9000),vI 12000,vI 9000,vS (RK+0) 0 3 3,.slice (xK (RK+1) (RK+2) (RK+3) (((kv xs 3) % 3).toNat)) (jU (((kv xs 3) % 3).toNat)) (jU (((kv xs 3) % 3).toNat)),vI (4000+(((kv xs 1) % 9)*1000)),vI 0,vI ((-(((kv xs 2) / 36) % 3))*40),vI ((((kv xs 1) / 9) % 5)*100),vI (((kv xs 2) % 4)*100),vI ((((kv xs 2) / 4) % 3)*512),vI (1+(((kv xs 2) / 12) % 3)),vI 60] 31 (0,0)),(kb,.rows 1 c_ (aP Ao (ks xs 24++rest)) 3 (0,0)),((n1+0),.lit [vI 0,.slice none 0 0,vI 0,vI 0,vI 0,vI 0,.slice none 0 0,.slice none 0 0,vI 0,vI 0,vI 0,vI 0,vI 0,vI 0,vI 0,vI 0] 31 (0,0))],[V_,U_],(j:Int) <= qW xs /\ bods.length=j /\ (∀t,t<j -> ∃A c,bods.getD t dB=tL xs t A c) /\ (∀t,t<j -> ShH (bods.getD t dB).sh U_) /\ SlIs kV 90 bods B_ d_ V_ /\ bA B_,(qW xs).toNat-j⟩) (0,[],none,0,[],[]) [0,1,2,3,4,5,6,7] [0,1] (⟨by show (0:Int) <= _;omega,rfl,λ t ht=>absurd ht (Nat.not_lt_zero _),λ t ht=>absurd ht (Nat.not_lt_zero _),aas _ _,trivial⟩) ?_;rintro⟨j,bods,B_,d_,V_,U_⟩ ⟨hj_,SX,hb_,V4,Xn,abj⟩ aeL;refine ae 2 [] λ _=>aak [] []<|aw [] [0,1,3,2,4,5,6,7,8,9] [.own 5,.row 6 3 0,.nw,.nw,.nw] [aZ ((1+((kv xs 0) % 3))+(((kv xs 3) / 3) % 3)),0 <= (kv xs 3) / 3 /\ (0:Int)<3 /\ (kv xs 3) / 3 <= 9223372036854775807,0 <= kv xs 3 /\ (0:Int)<3 /\ kv xs 3 <= 9223372036854775807,3=3*1+0 /\ 3<c_]<|aad<|ae 1 [] λ _=>aal ((j:Int)<(1+((kv xs 0) % 3))+(((kv xs 3) / 3) % 3)) 101 (λ h24=>?_) λ h24=>?_
  ·refine ai 13 [.nw,.nw,.ix ((4+(2*(j:Int))).toNat),.row 6 ((4+(2*(j:Int))).toNat) 0] [(0+((4+(2*(j:Int))).toNat)*1)=((4+(2*(j:Int))).toNat)*1+0 /\ ((4+(2*(j:Int))).toNat)<c_,4+(2*(j:Int))=(((4+(2*(j:Int))).toNat:Nat):Int) /\ (4+(2*(j:Int))).toNat<24,aZ (4+(2*(j:Int))),aZ (2*(j:Int))] λ _=>aK 109 (congrArg (λ v_=>(vI v_:Value)) (Hu (xs:=xs) (rest:=rest) (n:=24) (i:=4+2*j) (by omega))) ?_;have hbN:=im hl (4+2*j);rw[show kv xs (4+2*j)=bN xs j from rfl] at hbN;refine ai 11 [.nw,.nw,.ix ((5+(2*(j:Int))).toNat),.row 6 ((5+(2*(j:Int))).toNat) 0] [(0+((5+(2*(j:Int))).toNat)*1)=((5+(2*(j:Int))).toNat)*1+0 /\ ((5+(2*(j:Int))).toNat)<c_,5+(2*(j:Int))=(((5+(2*(j:Int))).toNat:Nat):Int) /\ (5+(2*(j:Int))).toNat<24,aZ (5+(2*(j:Int))),aZ (2*(j:Int))] λ _=>aK 115 (congrArg (λ v_=>(vI v_:Value)) (Hu (xs:=xs) (rest:=rest) (n:=24) (i:=5+2*j) (by omega))) ?_;have hbM:=im hl (5+2*j);rw[show kv xs (5+2*j)=bM xs j from rfl] at hbM;refine ae 6 [] λ _=>aai (Hp:=[]) (Tp:=[]) [] [] (xI (bN xs j) _) ?_;rintro _ ⟨A25,c26,UL⟩ ⟨rfl,Yo⟩;dsimp only at Yo;refine ai 37 ([.nw,.nw]++ow 0 9++[.nw,.nw,.nw,.nw,.nw,.nw,.nw,.nw,.nw,.nw,.nw,.nw,.nw,.nw,.nw,.nw,.nw,.nw]) [0 <= (bM xs j) / 5000 /\ (0:Int)<5 /\ (bM xs j) / 5000 <= 9223372036854775807,0 <= bM xs j /\ (0:Int)<5000 /\ bM xs j <= 9223372036854775807,aZ (((((bN xs j) / 13000) % 9)-4)*300),aZ ((((bN xs j) / 13000) % 9)-4),0 <= (bN xs j) / 13000 /\ (0:Int)<9 /\ (bN xs j) / 13000 <= 9223372036854775807,0 <= bN xs j /\ (0:Int)<13000 /\ bN xs j <= 9223372036854775807,aZ (((((bM xs j) / 550) % 9)-4)*300),aZ ((((bM xs j) / 550) % 9)-4),0 <= (bM xs j) / 550 /\ (0:Int)<9 /\ (bM xs j) / 550 <= 9223372036854775807,0 <= bM xs j /\ (0:Int)<550 /\ bM xs j <= 9223372036854775807,aZ (((((bM xs j) / 50) % 11)-5)*800),aZ ((((bM xs j) / 50) % 11)-5),0 <= (bM xs j) / 50 /\ (0:Int)<11 /\ (bM xs j) / 50 <= 9223372036854775807,0 <= bM xs j /\ (0:Int)<50 /\ bM xs j <= 9223372036854775807,aZ (((((bN xs j) / 1000) % 13)-6)*900),aZ ((((bN xs j) / 1000) % 13)-6),0 <= (bN xs j) / 1000 /\ (0:Int)<13 /\ (bN xs j) / 1000 <= 9223372036854775807,0 <= bN xs j /\ (0:Int)<1000 /\ bN xs j <= 9223372036854775807,0 <= bN xs j /\ (0:Int)<7 /\ bN xs j <= 9223372036854775807,0 <= bM xs j /\ (0:Int)<50 /\ bM xs j <= 9223372036854775807] λ n29=>aaj 0 (.rows 1 5 (aS [1024,1024,512,2048,0]) 3 (0,0))<|ai 12 ([.ix ((((bM xs j) / 5000) % 5).toNat),.row 0 ((((bM xs j) / 5000) % 5).toNat) 0]++ow 1 5++[.own 7]++ow 1 9) [(0+((((bM xs j) / 5000) % 5).toNat)*1)=((((bM xs j) / 5000) % 5).toNat)*1+0 /\ ((((bM xs j) / 5000) % 5).toNat)<5,((bM xs j) / 5000) % 5=(((((bM xs j) / 5000) % 5).toNat:Nat):Int) /\ (((bM xs j) / 5000) % 5).toNat<5] λ n30=>iW zQ bods [tL xs j A25 c26] 1 0 SX.symm Xn (by rw[SX];show j+1 <= 100000000;omega) ?_;rintro A31 c32 T33 ⟨afn,ae4⟩;refine ai 10 [.own 8,.nw] [aZ ((j:Int)+1)] λ _=>?_;have V0:=ae4 abj;refine tf [2,1,0]<|wL ?_;refine aeL (j+1,bods++[(tL xs j A25 c26)],A31,c32,T33,U_++UL) [3,4,5,6,7,8,9,10] [1,0] ?_
   try dsimp only
   refine⟨⟨by omega,by rw[aaK,SX];rfl,?_,?_,afn,V0⟩,by omega⟩
   ·intro t ht;rcases aaU t j with h|h
    ·rw[qX (by omega)];exact hb_ t h
    ·have:t=bods.length:=by omega
     subst this;rw[tM,SX];exact⟨_,_,rfl⟩
   ·intro t ht;rcases aaU t j with h|h
    ·rw[qX (by omega)];exact(V4 t h).left
    ·have:t=bods.length:=by omega
     subst this;rw[tM];exact ShH.right Yo
  ·refine ae 7 [] λ _=>?_;have ej:(j:Int)=qW xs:=by unfold qW KW;unfold qW KW at hj_;omega
   obtain⟨bb,TH,rfl,rfl,SU⟩:=Xn.open0 abj (by decide) (by rw[SX];omega);refine wK 0 (x:=(bb,.rows 9 d_ (aP kV (bods++TH)) 90 (0,0)))<|ae 5 (ow 6 16++ow 8 16) λ _=>aaj 5 (.rows 4 3 (aP xJ vq) 25 (0,0))<|aaj 3 (.rows 2 1 (aP mY (lr 1)) 81 (0,0))<|aaj 2 (.rows 2 2 (aP mY (lr 2)) 81 (0,0))<|aap (ow 8 16) [0,5,3,2] [0] (v:=.agg #[vI (1+((kv xs 0) % 3)),vS bb 0 j d_,vI (-12000),vI (-9000),vI 12000,vI 9000,vS (RK+0) 0 3 3,.slice (xK (RK+1) (RK+2) (RK+3) (((kv xs 3) % 3).toNat)) (jU (((kv xs 3) % 3).toNat)) (jU (((kv xs 3) % 3).toNat)),vI (4000+(((kv xs 1) % 9)*1000)),vI 0,vI ((-(((kv xs 2) / 36) % 3))*40),vI ((((kv xs 1) / 9) % 5)*100),vI (((kv xs 2) % 4)*100),vI ((((kv xs 2) / 4) % 3)*512),vI (1+(((kv xs 2) / 12) % 3)),vI 60]) (H':=(ap [(bb,.rows 9 d_ (aP kV (bods++TH)) 90 (0,0)),((RK+0),.rows 4 3 (aP xJ vq) 25 (0,0)),((RK+2),.rows 2 1 (aP mY (lr 1)) 81 (0,0)),((RK+3),.rows 2 2 (aP mY (lr 2)) 81 (0,0))] [U_])) ?_;have Wv:∀k,k<j -> (bods++TH).getD (0+k) dB=bods.getD k dB:=λ k hk=>by rw[Nat.zero_add,qX (by omega)]
   refine⟨((⟨1+((kv xs 0) % 3),bb,0,j,d_,d_,bods++TH,⟨-12000,-9000,12000,9000⟩,some ⟨(RK+0),0,none⟩,3,3,xK (RK+1) (RK+2) (RK+3) (kv xs 3 % 3).toNat,jU (kv xs 3 % 3).toNat,jU (kv xs 3 % 3).toNat,4000+(((kv xs 1) % 9)*1000),⟨0,(-(((kv xs 2) / 36) % 3))*40⟩,(((kv xs 1) / 9) % 5)*100,((kv xs 2) % 4)*100,(((kv xs 2) / 4) % 3)*512,1+(((kv xs 2) / 12) % 3),60⟩:Setup),[((RK+0),.rows 4 3 (aP xJ vq) 25 (0,0)),((RK+2),.rows 2 1 (aP mY (lr 1)) 81 (0,0)),((RK+3),.rows 2 2 (aP mY (lr 2)) 81 (0,0))]++U_),(by simp[ap]),rfl,?_⟩;refine⟨rfl,ej,rfl,(by rw[SX] at SU;exact SU),(by rw[SX] at SU;show 0+j <= d_;omega),⟨rfl,rfl,rfl,rfl,rfl,rfl,rfl,rfl⟩,λ k hk=>?_,λ F hbF hF=>⟨⟨by show (0:Int) <= 1+kv xs 0 % 3 /\ 1+kv xs 0 % 3 <= 1000000;omega,by show j <= 1000000;omega⟩,hbF,by show 0+j <= d_;rw[SX] at SU;omega,λ k hk=>?_⟩,⟨⟨rfl,rfl⟩,λ F hF=>⟨RowL.whole (xs:=vq) (hF _ (aax _ (aay))) (aaI _),Ap (hF _ (aax _ (aaC _ (aay)))) (hF _ (aax _ (aaC _ (aaC _ (aay))))) _⟩⟩⟩
   ·obtain⟨A,c,h⟩:=hb_ k hk;exact⟨A,c,by show (bods++TH).getD (0+k) dB=_;rw[Wv k hk];exact h⟩
   ·show ShIn F ((bods++TH).getD (0+k) dB).sh;rw[Wv k hk];exact V4 k hk F λ x hx=>hF x (by simp[hx])
def rowN(pl:Int)(xs:List Int)(t:Int)(q:Nat):Int:=if xs.length>0 then aq (xs.getD ((t*pl+(q:Int)) % (xs.length:Int)).toNat 0) 1000000 else 0
def xL(n:Int):Inp:=⟨n % 3-1,n / 3 % 3-1,if n / 9 % 3=0 then n / 27 % 4 else 0⟩
def vu(pl:Int)(xs:List Int)(t:Int)(q:Nat):Inp:=xL (rowN pl xs t q)
def rowL(pl:Int)(xs:List Int)(t:Int)(n:Nat):List Inp:=(List.range n).map (vu pl xs t)
theorem ez(pl:Int)(xs:List Int)(t:Int)(n:Nat):(rowL pl xs t n).length=n:=by simp[rowL]
theorem oO(pl:Int)(xs:List Int)(t:Int)(n:Nat):rowL pl xs t (n+1)=rowL pl xs t n++[vu pl xs t n]:=by simp[rowL,List.range_succ]
theorem Hv{pl:Int}{xs:List Int}{t:Int}{n i:Nat}(h:i<n):(rowL pl xs t n).getD i dI=vu pl xs t i:=by simp[rowL,h]
theorem KX{F:HL}{A:Option Addr}{n:Nat}{xs:List Int}(h:ArgL F A n xs)(pl t:Int)(q:Nat):0 <= rowN pl xs t q /\ rowN pl xs t q<1000000:=by
 unfold rowN;split
 ·next hi =>
  rw[h.len] at hi;have h1:=Int.emod_nonneg (t*pl+(q:Int)) (show (n:Int)≠0 by omega);have h2:=Int.emod_lt_of_pos (t*pl+(q:Int)) (show (0:Int)<n by omega);rw[h.len];obtain⟨_,_,_,_,_,_,_,_,_,_,hr⟩:=h.at (k:=((t*pl+(q:Int)) % (n:Int)).toNat) (by omega);exact bK hr 1000000 (by decide)
 ·omega
theorem KY(S:Setup)(A:Option Addr)(n cap:Nat)(xs:List Int)(t:Int)(F:HL)(hl:ArgL F A n xs)(hn:n <= 9223372036854775807)(hp:0 <= S.players /\ S.players <= 1000000)(ht:0 <= t /\ t <= 1000000):Sp Tryz.prog 30 #[Setup.v S,.slice A n cap,vI t] (ap [] []) F (λ u H'=>∃x:Option Addr × Nat × HL,H'=ap [] [x.2.2] /\ (u=.slice x.1 S.players.toNat x.2.1 /\ SlIs cV 40 (rowL S.players xs t S.players.toNat) x.1 x.2.1 x.2.2 /\ bA x.1)):=by
 have hm:0 <= t*S.players /\ t*S.players <= 1000000000000:=⟨Int.mul_nonneg ht.1 hp.1,Int.le_trans (Int.mul_le_mul ht.2 hp.2 hp.1 (by decide)) (by decide)⟩;refine aat Tryz.func30 rfl mn (A:=[]) (Ts:=[]) rfl λ w0=>?_;refine ae 18 [] λ n1=>aao<|aan (σ:=Nat × Option Addr × Nat × HL) (λ ⟨q,A_,c_,T_⟩=>⟨[(1,.slice A n cap),(2,vI t),(3,vP (n1+0) 0),(7,.slice A_ q c_),(8,vI (q:Int))],[((n1+0),.lit (Setup.l S) 31 (0,0))],[T_],(q:Int) <= S.players /\ SlIs cV 40 (rowL S.players xs t q) A_ c_ T_ /\ bA A_,S.players.toNat-q⟩) (0,none,0,[]) [0] [0] (⟨by show (0:Int) <= _;omega,aas _ _,trivial⟩) ?_;rintro⟨q,A_,c_,T_⟩ ⟨Wk,RL,Vq⟩ R4;refine ae 9 [.own 0] λ _=>aal ((q:Int)<S.players) 14 (λ h4=>?_) λ h4=>?_
 ·refine ae 18 [] λ _=>aal ((n:Int)>0) 19 (λ h5=>?_) λ h5=>?_
  ·refine ai 12 [.own 0,.nw,.nw,.nw] [0 <= (t*S.players)+(q:Int) /\ (0:Int)<(n:Int) /\ (t*S.players)+(q:Int) <= 9223372036854775807,aZ ((t*S.players)+(q:Int)),aZ (t*S.players)] λ _=>?_;have al8:=Int.emod_nonneg (t*S.players+(q:Int)) (show (n:Int)≠0 by omega);have al7:=Int.emod_lt_of_pos (t*S.players+(q:Int)) (show (0:Int)<n by omega);obtain⟨qx6,Va,Nx6,gx6,aeC,adx,WT,Wc,ab0,Wn,Zk⟩:=hl.at (k:=((t*S.players+(q:Int)) % (n:Int)).toNat) (by omega);refine aK 20 (congrArg (λ v_=>(.slice v_ n cap:Value)) WT)<|RN.ro (λ _=>(mc Wc mn))<|ai 2 [.ix ((((t*S.players)+(q:Int)) % (n:Int)).toNat),.rorow 0 (Va+((((t*S.players)+(q:Int)) % (n:Int)).toNat)) 0] [(Va+((((t*S.players)+(q:Int)) % (n:Int)).toNat)*1)=(Va+((((t*S.players)+(q:Int)) % (n:Int)).toNat))*1+0 /\ (Va+((((t*S.players)+(q:Int)) % (n:Int)).toNat))<Nx6,((t*S.players)+(q:Int)) % (n:Int)=(((((t*S.players)+(q:Int)) % (n:Int)).toNat:Nat):Int) /\ (((t*S.players)+(q:Int)) % (n:Int)).toNat<n] λ _=>aK 31 (congrArg (λ v_=>(v_:Value)) Wn)<|aah (fL (xs.getD (((t*S.players+(q:Int)) % (n:Int)).toNat) 0) 1000000 (by decide) _) ?_;have hA7:=bK (n:=xs.getD (((t*S.players+(q:Int)) % (n:Int)).toNat) 0) Zk 1000000 (by decide);refine ae 4 [] λ _=>ai 22 [.nw,.nw,.nw,.nw,.nw,.own 0,.own 0,.own 0,.nw,.nw] [0 <= (aq (xs.getD (((t*S.players+(q:Int)) % (n:Int)).toNat) 0) 1000000) / 9 /\ (0:Int)<3 /\ (aq (xs.getD (((t*S.players+(q:Int)) % (n:Int)).toNat) 0) 1000000) / 9 <= 9223372036854775807,0 <= aq (xs.getD (((t*S.players+(q:Int)) % (n:Int)).toNat) 0) 1000000 /\ (0:Int)<9 /\ aq (xs.getD (((t*S.players+(q:Int)) % (n:Int)).toNat) 0) 1000000 <= 9223372036854775807,aZ ((((aq (xs.getD (((t*S.players+(q:Int)) % (n:Int)).toNat) 0) 1000000) / 3) % 3)-1),0 <= (aq (xs.getD (((t*S.players+(q:Int)) % (n:Int)).toNat) 0) 1000000) / 3 /\ (0:Int)<3 /\ (aq (xs.getD (((t*S.players+(q:Int)) % (n:Int)).toNat) 0) 1000000) / 3 <= 9223372036854775807,0 <= aq (xs.getD (((t*S.players+(q:Int)) % (n:Int)).toNat) 0) 1000000 /\ (0:Int)<3 /\ aq (xs.getD (((t*S.players+(q:Int)) % (n:Int)).toNat) 0) 1000000 <= 9223372036854775807,aZ (((aq (xs.getD (((t*S.players+(q:Int)) % (n:Int)).toNat) 0) 1000000) % 3)-1),0 <= aq (xs.getD (((t*S.players+(q:Int)) % (n:Int)).toNat) 0) 1000000 /\ (0:Int)<3 /\ aq (xs.getD (((t*S.players+(q:Int)) % (n:Int)).toNat) 0) 1000000 <= 9223372036854775807] λ n8=>aal (((aq (xs.getD (((t*S.players+(q:Int)) % (n:Int)).toNat) 0) 1000000) / 9) % 3=0) 44 (λ h9=>?_) λ h9=>?_
   ·refine ai 13 [.nw,.nw,.own 0,.own 0,.own 0,.own 0] [0 <= (aq (xs.getD (((t*S.players+(q:Int)) % (n:Int)).toNat) 0) 1000000) / 27 /\ (0:Int)<4 /\ (aq (xs.getD (((t*S.players+(q:Int)) % (n:Int)).toNat) 0) 1000000) / 27 <= 9223372036854775807,0 <= aq (xs.getD (((t*S.players+(q:Int)) % (n:Int)).toNat) 0) 1000000 /\ (0:Int)<27 /\ aq (xs.getD (((t*S.players+(q:Int)) % (n:Int)).toNat) 0) 1000000 <= 9223372036854775807] λ TI=>?_;have To:vu S.players xs t q=(⟨((aq (xs.getD (((t*S.players+(q:Int)) % (n:Int)).toNat) 0) 1000000) % 3)-1,(((aq (xs.getD (((t*S.players+(q:Int)) % (n:Int)).toNat) 0) 1000000) / 3) % 3)-1,((aq (xs.getD (((t*S.players+(q:Int)) % (n:Int)).toNat) 0) 1000000) / 27) % 4⟩:Inp):=by
     unfold vu;rw[show rowN S.players xs t q=aq (xs.getD (((t*S.players+(q:Int)) % (n:Int)).toNat) 0) 1000000 from by unfold rowN;rw[hl.len];rw[if_pos (by omega)]]
     first|rfl|(unfold xL;simp only[if_pos h9])
    refine iW qN (rowL S.players xs t q) [(⟨((aq (xs.getD (((t*S.players+(q:Int)) % (n:Int)).toNat) 0) 1000000) % 3)-1,(((aq (xs.getD (((t*S.players+(q:Int)) % (n:Int)).toNat) 0) 1000000) / 3) % 3)-1,((aq (xs.getD (((t*S.players+(q:Int)) % (n:Int)).toNat) 0) 1000000) / 27) % 4⟩:Inp)] 0 0 (ez _ _ _ _).symm RL (by rw[ez];show q+1 <= 100000000;omega) ?_;rintro A11 c12 Tb ⟨Um,abk⟩;refine ai 9 [.nw] [aZ ((q:Int)+1)] λ _=>?_;have V0:=abk Vq;refine R4 (q+1,A11,c12,Tb) [2] [0] ?_
    try dsimp only
    refine⟨⟨by omega,?_,V0⟩,by omega⟩;rw[oO,To];exact Um
   ·refine ae 7 (aab 3) λ n16=>?_;have To:vu S.players xs t q=(⟨((aq (xs.getD (((t*S.players+(q:Int)) % (n:Int)).toNat) 0) 1000000) % 3)-1,(((aq (xs.getD (((t*S.players+(q:Int)) % (n:Int)).toNat) 0) 1000000) / 3) % 3)-1,0⟩:Inp):=by
     unfold vu;rw[show rowN S.players xs t q=aq (xs.getD (((t*S.players+(q:Int)) % (n:Int)).toNat) 0) 1000000 from by unfold rowN;rw[hl.len];rw[if_pos (by omega)]]
     first|rfl|(unfold xL;simp only[if_neg h9])
    refine iW qN (rowL S.players xs t q) [(⟨((aq (xs.getD (((t*S.players+(q:Int)) % (n:Int)).toNat) 0) 1000000) % 3)-1,(((aq (xs.getD (((t*S.players+(q:Int)) % (n:Int)).toNat) 0) 1000000) / 3) % 3)-1,0⟩:Inp)] 0 0 (ez _ _ _ _).symm RL (by rw[ez];show q+1 <= 100000000;omega) ?_;rintro A17 c18 VC ⟨Xp,Y0⟩;refine ai 9 [.nw] [aZ ((q:Int)+1)] λ _=>?_;have V0:=Y0 Vq;refine R4 (q+1,A17,c18,VC) [2] [0] ?_
    try dsimp only
    refine⟨⟨by omega,?_,V0⟩,by omega⟩;rw[oO,To];exact Xp
  ·refine ae 4 [] λ _=>ae 35 (ow 0 7) λ n22=>?_;have To:vu S.players xs t q=(⟨(-1),(-1),0⟩:Inp):=by
    unfold vu;rw[show rowN S.players xs t q=0 from by unfold rowN;rw[hl.len];rw[if_neg (by omega)]];rfl
   refine iW qN (rowL S.players xs t q) [(⟨(-1),(-1),0⟩:Inp)] 0 0 (ez _ _ _ _).symm RL (by rw[ez];show q+1 <= 100000000;omega) ?_;rintro A23 c24 YT ⟨afo,ae5⟩;refine ai 9 [.nw] [aZ ((q:Int)+1)] λ _=>?_;have V0:=ae5 Vq;refine R4 (q+1,A23,c24,YT) [2] [0] ?_
   try dsimp only
   refine⟨⟨by omega,?_,V0⟩,by omega⟩;rw[oO,To];exact afo
 ·refine ae 12 [] λ _=>aap [] [] [0] (v:=.slice A_ q c_) (H':=(ap [] [T_])) ?_;have ei:q=S.players.toNat:=by omega
  subst ei;exact⟨(A_,c_,T_),rfl,rfl,RL,Vq⟩
theorem pU(a:Addr)(n c:Nat)(xs:List Bod)(F:HL)(hl:SrcIn Tryz.prog kV F (some a) n xs)(hb:n <= 100000000):Sp Tryz.prog 113 #[.slice (some a) n c] [] F (λ u H'=>∃x:Option Addr × Nat × HL,H'=ap [] [x.2.2] /\ (u=.slice x.1 n x.2.1 /\ ClS kV 90 xs x.1 x.2.1 x.2.2)):=by
 refine aat Tryz.func113 rfl mn (A:=[]) (Ts:=[]) rfl λ w0=>?_;refine ae 19 [] λ n1=>aao<|iy (A:=(some ⟨(n1+0),0,none⟩)) (B:=(some a)) (c':=c) zQ xs 0 (λ a_ e_=>by cases e_;rfl) (m:=n) (tx:=23) hl.1.1.symm (by rw[hl.1.1];exact hb) (λ e_ he X w hR=>hl.2 c he X w hR) ?_;rintro A2 c3 T4 SK;refine ae 3 [] λ _=>aap [] [] [0] (v:=.slice A2 xs.length c3) (H':=(ap [] [T4])) ?_;exact⟨(A2,c3,T4),rfl,by rw[hl.1.1],_,SK⟩
theorem pV(c:Nat)(F:HL):Sp Tryz.prog 113 #[.slice none 0 c] [] F (λ u H'=>∃x:Option Addr × Nat × HL,H'=ap [] [x.2.2] /\ (u=.slice x.1 0 x.2.1 /\ ClS kV 90 [] x.1 x.2.1 x.2.2)):=by
 refine aat Tryz.func113 rfl mn (A:=[]) (Ts:=[]) rfl λ w0=>?_;refine ae 18 [] λ _=>aap [] [] [] (v:=.slice none 0 0) (H':=(ap [] [])) ?_;exact⟨(none,0,[]),rfl,rfl,.nil _ _ _⟩
theorem qY(A:Option Addr)(n c:Nat)(xs:List Bod)(F:HL)(hl:SrcIn Tryz.prog kV F A n xs)(hb:n <= 100000000):Sp Tryz.prog 113 #[.slice A n c] (ap [] []) F (λ u H'=>∃x:Option Addr × Nat × HL,H'=ap [] [x.2.2] /\ (u=.slice x.1 n x.2.1 /\ ClS kV 90 xs x.1 x.2.1 x.2.2)):=by
 cases A with
 | some a=>exact pU a n c xs F hl hb
 | none =>
  obtain rfl:n=0:=hl.1.2 rfl;obtain rfl:xs=[]:=aaT hl.1.1;exact pV c F
theorem qZ(a:Addr)(n c:Nat)(xs:List V2)(F:HL)(hl:SrcIn Tryz.prog mt F (some a) n xs)(hb:n <= 100000000):Sp Tryz.prog 114 #[.slice (some a) n c] [] F (λ u H'=>∃x:Option Addr × Nat × HL,H'=ap [] [x.2.2] /\ (u=.slice x.1 n x.2.1 /\ ClS mt 29 xs x.1 x.2.1 x.2.2)):=by
 refine aat Tryz.func114 rfl mn (A:=[]) (Ts:=[]) rfl λ w0=>?_;refine ae 19 [] λ n1=>aao<|iy (A:=(some ⟨(n1+0),0,none⟩)) (B:=(some a)) (c':=c) Ht xs 0 (λ a_ e_=>by cases e_;rfl) (m:=n) (tx:=83) hl.1.1.symm (by rw[hl.1.1];exact hb) (λ e_ he X w hR=>hl.2 c he X w hR) ?_;rintro A2 c3 T4 SK;refine ae 3 [] λ _=>aap [] [] [0] (v:=.slice A2 xs.length c3) (H':=(ap [] [T4])) ?_;exact⟨(A2,c3,T4),rfl,by rw[hl.1.1],_,SK⟩
theorem rd(c:Nat)(F:HL):Sp Tryz.prog 114 #[.slice none 0 c] [] F (λ u H'=>∃x:Option Addr × Nat × HL,H'=ap [] [x.2.2] /\ (u=.slice x.1 0 x.2.1 /\ ClS mt 29 [] x.1 x.2.1 x.2.2)):=by
 refine aat Tryz.func114 rfl mn (A:=[]) (Ts:=[]) rfl λ w0=>?_;refine ae 18 [] λ _=>aap [] [] [] (v:=.slice none 0 0) (H':=(ap [] [])) ?_;exact⟨(none,0,[]),rfl,rfl,.nil _ _ _⟩
theorem sJ(A:Option Addr)(n c:Nat)(xs:List V2)(F:HL)(hl:SrcIn Tryz.prog mt F A n xs)(hb:n <= 100000000):Sp Tryz.prog 114 #[.slice A n c] (ap [] []) F (λ u H'=>∃x:Option Addr × Nat × HL,H'=ap [] [x.2.2] /\ (u=.slice x.1 n x.2.1 /\ ClS mt 29 xs x.1 x.2.1 x.2.2)):=by
 cases A with
 | some a=>exact qZ a n c xs F hl hb
 | none =>
  obtain rfl:n=0:=hl.1.2 rfl;obtain rfl:xs=[]:=aaT hl.1.1;exact rd c F
theorem re(a:Addr)(n c:Nat)(xs:List Bx)(F:HL)(hl:SrcIn Tryz.prog xJ F (some a) n xs)(hb:n <= 100000000):Sp Tryz.prog 115 #[.slice (some a) n c] [] F (λ u H'=>∃x:Option Addr × Nat × HL,H'=ap [] [x.2.2] /\ (u=.slice x.1 n x.2.1 /\ ClS xJ 25 xs x.1 x.2.1 x.2.2)):=by
 refine aat Tryz.func115 rfl mn (A:=[]) (Ts:=[]) rfl λ w0=>?_;refine ae 19 [] λ n1=>aao<|iy (A:=(some ⟨(n1+0),0,none⟩)) (B:=(some a)) (c':=c) Mw xs 0 (λ a_ e_=>by cases e_;rfl) (m:=n) (tx:=26) hl.1.1.symm (by rw[hl.1.1];exact hb) (λ e_ he X w hR=>hl.2 c he X w hR) ?_;rintro A2 c3 T4 SK;refine ae 3 [] λ _=>aap [] [] [0] (v:=.slice A2 xs.length c3) (H':=(ap [] [T4])) ?_;exact⟨(A2,c3,T4),rfl,by rw[hl.1.1],_,SK⟩
theorem rg(c:Nat)(F:HL):Sp Tryz.prog 115 #[.slice none 0 c] [] F (λ u H'=>∃x:Option Addr × Nat × HL,H'=ap [] [x.2.2] /\ (u=.slice x.1 0 x.2.1 /\ ClS xJ 25 [] x.1 x.2.1 x.2.2)):=by
 refine aat Tryz.func115 rfl mn (A:=[]) (Ts:=[]) rfl λ w0=>?_;refine ae 18 [] λ _=>aap [] [] [] (v:=.slice none 0 0) (H':=(ap [] [])) ?_;exact⟨(none,0,[]),rfl,rfl,.nil _ _ _⟩
theorem sK(A:Option Addr)(n c:Nat)(xs:List Bx)(F:HL)(hl:SrcIn Tryz.prog xJ F A n xs)(hb:n <= 100000000):Sp Tryz.prog 115 #[.slice A n c] (ap [] []) F (λ u H'=>∃x:Option Addr × Nat × HL,H'=ap [] [x.2.2] /\ (u=.slice x.1 n x.2.1 /\ ClS xJ 25 xs x.1 x.2.1 x.2.2)):=by
 cases A with
 | some a=>exact re a n c xs F hl hb
 | none =>
  obtain rfl:n=0:=hl.1.2 rfl;obtain rfl:xs=[]:=aaT hl.1.1;exact rg c F
theorem pW(a:Addr)(n c:Nat)(xs:List Dr)(F:HL)(hl:SrcIn Tryz.prog mY F (some a) n xs)(hb:n <= 100000000):Sp Tryz.prog 116 #[.slice (some a) n c] [] F (λ u H'=>∃x:Option Addr × Nat × HL,H'=ap [] [x.2.2] /\ (u=.slice x.1 n x.2.1 /\ ClS mY 81 xs x.1 x.2.1 x.2.2)):=by
 refine aat Tryz.func116 rfl mn (A:=[]) (Ts:=[]) rfl λ w0=>?_;refine ae 19 [] λ n1=>aao<|iy (A:=(some ⟨(n1+0),0,none⟩)) (B:=(some a)) (c':=c) Mx xs 0 (λ a_ e_=>by cases e_;rfl) (m:=n) (tx:=27) hl.1.1.symm (by rw[hl.1.1];exact hb) (λ e_ he X w hR=>hl.2 c he X w hR) ?_;rintro A2 c3 T4 SK;refine ae 3 [] λ _=>aap [] [] [0] (v:=.slice A2 xs.length c3) (H':=(ap [] [T4])) ?_;exact⟨(A2,c3,T4),rfl,by rw[hl.1.1],_,SK⟩
theorem pX(c:Nat)(F:HL):Sp Tryz.prog 116 #[.slice none 0 c] [] F (λ u H'=>∃x:Option Addr × Nat × HL,H'=ap [] [x.2.2] /\ (u=.slice x.1 0 x.2.1 /\ ClS mY 81 [] x.1 x.2.1 x.2.2)):=by
 refine aat Tryz.func116 rfl mn (A:=[]) (Ts:=[]) rfl λ w0=>?_;refine ae 18 [] λ _=>aap [] [] [] (v:=.slice none 0 0) (H':=(ap [] [])) ?_;exact⟨(none,0,[]),rfl,rfl,.nil _ _ _⟩
theorem rh(A:Option Addr)(n c:Nat)(xs:List Dr)(F:HL)(hl:SrcIn Tryz.prog mY F A n xs)(hb:n <= 100000000):Sp Tryz.prog 116 #[.slice A n c] (ap [] []) F (λ u H'=>∃x:Option Addr × Nat × HL,H'=ap [] [x.2.2] /\ (u=.slice x.1 n x.2.1 /\ ClS mY 81 xs x.1 x.2.1 x.2.2)):=by
 cases A with
 | some a=>exact pW a n c xs F hl hb
 | none =>
  obtain rfl:n=0:=hl.1.2 rfl;obtain rfl:xs=[]:=aaT hl.1.1;exact pX c F
theorem ri(a:Addr)(n c:Nat)(xs:List Ins)(F:HL)(hl:SrcIn Tryz.prog kW F (some a) n xs)(hb:n <= 100000000):Sp Tryz.prog 130 #[.slice (some a) n c] [] F (λ u H'=>∃x:Option Addr × Nat × HL,H'=ap [] [x.2.2] /\ (u=.slice x.1 n x.2.1 /\ ClS kW 231 xs x.1 x.2.1 x.2.2)):=by
 refine aat Tryz.func130 rfl mn (A:=[]) (Ts:=[]) rfl λ w0=>?_;refine ae 19 [] λ n1=>aao<|iy (A:=(some ⟨(n1+0),0,none⟩)) (B:=(some a)) (c':=c) Gp xs 0 (λ a_ e_=>by cases e_;rfl) (m:=n) (tx:=139) hl.1.1.symm (by rw[hl.1.1];exact hb) (λ e_ he X w hR=>hl.2 c he X w hR) ?_;rintro A2 c3 T4 SK;refine ae 3 [] λ _=>aap [] [] [0] (v:=.slice A2 xs.length c3) (H':=(ap [] [T4])) ?_;exact⟨(A2,c3,T4),rfl,by rw[hl.1.1],_,SK⟩
theorem rj(c:Nat)(F:HL):Sp Tryz.prog 130 #[.slice none 0 c] [] F (λ u H'=>∃x:Option Addr × Nat × HL,H'=ap [] [x.2.2] /\ (u=.slice x.1 0 x.2.1 /\ ClS kW 231 [] x.1 x.2.1 x.2.2)):=by
 refine aat Tryz.func130 rfl mn (A:=[]) (Ts:=[]) rfl λ w0=>?_;refine ae 18 [] λ _=>aap [] [] [] (v:=.slice none 0 0) (H':=(ap [] [])) ?_;exact⟨(none,0,[]),rfl,rfl,.nil _ _ _⟩
theorem mD(A:Option Addr)(n c:Nat)(xs:List Ins)(F:HL)(hl:SrcIn Tryz.prog kW F A n xs)(hb:n <= 100000000):Sp Tryz.prog 130 #[.slice A n c] (ap [] []) F (λ u H'=>∃x:Option Addr × Nat × HL,H'=ap [] [x.2.2] /\ (u=.slice x.1 n x.2.1 /\ ClS kW 231 xs x.1 x.2.1 x.2.2)):=by
 cases A with
 | some a=>exact ri a n c xs F hl hb
 | none =>
  obtain rfl:n=0:=hl.1.2 rfl;obtain rfl:xs=[]:=aaT hl.1.1;exact rj c F
theorem oP(a:Addr)(n c:Nat)(xs:List Inp)(F:HL)(hl:SrcIn Tryz.prog cV F (some a) n xs)(hb:n <= 100000000):Sp Tryz.prog 46 #[.slice (some a) n c] [] F (λ u H'=>∃x:Option Addr × Nat × HL,H'=ap [] [x.2.2] /\ (u=.slice x.1 n x.2.1 /\ ClS cV 40 xs x.1 x.2.1 x.2.2)):=by
 refine aat Tryz.func46 rfl mn (A:=[]) (Ts:=[]) rfl λ w0=>?_;refine ae 19 [] λ n1=>aao<|iy (A:=(some ⟨(n1+0),0,none⟩)) (B:=(some a)) (c':=c) qN xs 0 (λ a_ e_=>by cases e_;rfl) (m:=n) (tx:=38) hl.1.1.symm (by rw[hl.1.1];exact hb) (λ e_ he X w hR=>hl.2 c he X w hR) ?_;rintro A2 c3 T4 SK;refine ae 3 [] λ _=>aap [] [] [0] (v:=.slice A2 xs.length c3) (H':=(ap [] [T4])) ?_;exact⟨(A2,c3,T4),rfl,by rw[hl.1.1],_,SK⟩
theorem oQ(c:Nat)(F:HL):Sp Tryz.prog 46 #[.slice none 0 c] [] F (λ u H'=>∃x:Option Addr × Nat × HL,H'=ap [] [x.2.2] /\ (u=.slice x.1 0 x.2.1 /\ ClS cV 40 [] x.1 x.2.1 x.2.2)):=by
 refine aat Tryz.func46 rfl mn (A:=[]) (Ts:=[]) rfl λ w0=>?_;refine ae 18 [] λ _=>aap [] [] [] (v:=.slice none 0 0) (H':=(ap [] [])) ?_;exact⟨(none,0,[]),rfl,rfl,.nil _ _ _⟩
theorem pY(A:Option Addr)(n c:Nat)(xs:List Inp)(F:HL)(hl:SrcIn Tryz.prog cV F A n xs)(hb:n <= 100000000):Sp Tryz.prog 46 #[.slice A n c] (ap [] []) F (λ u H'=>∃x:Option Addr × Nat × HL,H'=ap [] [x.2.2] /\ (u=.slice x.1 n x.2.1 /\ ClS cV 40 xs x.1 x.2.1 x.2.2)):=by
 cases A with
 | some a=>exact oP a n c xs F hl hb
 | none =>
  obtain rfl:n=0:=hl.1.2 rfl;obtain rfl:xs=[]:=aaT hl.1.1;exact oQ c F
def eM(lo hi:Int)(ns:List Int):Prop:=∀k,k<ns.length -> lo <= ns.getD k 0 /\ ns.getD k 0 <= hi
instance (lo hi:Int) (ns:List Int):Decidable (eM lo hi ns):=inferInstanceAs (Decidable (∀k,k<ns.length -> _))
theorem xM(lo hi:Int):eM lo hi []:=λ k hk=>absurd hk (Nat.not_lt_zero _)
theorem tN{lo hi x:Int}{ns:List Int}:eM lo hi (x::ns)↔(lo <= x /\ x <= hi) /\ eM lo hi ns:=by
 constructor
 ·intro h;exact⟨h 0 (Nat.succ_pos _),λ k hk=>h (k+1) (Nat.succ_lt_succ hk)⟩
 ·rintro⟨h1,h2⟩ k hk;cases k with
  | zero=>exact h1
  | succ k=>exact h2 k (Nat.lt_of_succ_lt_succ hk)
theorem eI(lo hi:Int)(ns:List Int)(q:Nat)(F:HL)(hq:(q,.rows 1 ns.length (aS ns) 3 (0,0))∈F)(hn:ns.length <= 1000000):Sp Tryz.prog 142 #[vI lo,vI hi,vS q 0 ns.length ns.length] [] F (λ u H'=>u=.bool (decide (eM lo hi ns)) /\ H'=[]):=by
 refine aat Tryz.func142 rfl (mc hq mn) (A:=[]) (Ts:=[]) rfl λ w0=>?_;refine ae 14 [] λ _=>aan (σ:=Nat) (λ k=>⟨[(0,vI lo),(1,vI hi),(9,vS q 0 ns.length ns.length),(10,vI (ns.length:Int)),(11,vI (k:Int))],[],[],k <= ns.length /\ ∀t,t<k -> lo <= ns.getD t 0 /\ ns.getD t 0 <= hi,ns.length-k⟩) 0 [] [] (⟨aaJ _,λ t ht=>absurd ht (Nat.not_lt_zero _)⟩) ?_;rintro k ⟨hkl,hwk⟩ Sg;refine ae 6 [] λ _=>aal ((k:Int)<(ns.length:Int)) 12 (λ h3=>?_) λ h3=>?_
 ·refine ai 18 [.ix k,.rorow 0 k 0] [(0+k*1)=k*1+0 /\ k<ns.length,(k:Int)=((k:Nat):Int) /\ k<ns.length] λ _=>aal (ns.getD k 0<lo) 18 (λ h4=>?_) λ h4=>?_
  ·refine ae 12 [] λ _=>aap [] [] [] (v:=.bool false) (H':=[]) ?_;exact⟨by rw[aa4 (show ¬ eM lo hi ns from λ h_=>by have:=h_ k (by omega);omega)],rfl⟩
  ·refine ae 6 [] λ _=>aal (ns.getD k 0>hi) 22 (λ h5=>?_) λ h5=>?_
   ·refine ae 6 [] λ _=>aap [] [] [] (v:=.bool false) (H':=[]) ?_;exact⟨by rw[aa4 (show ¬ eM lo hi ns from λ h_=>by have:=h_ k (by omega);omega)],rfl⟩
   ·refine ai 8 [.nw] [aZ ((k:Int)+1)] λ _=>?_;refine Sg (k+1) [] [] ?_
    try dsimp only
    refine⟨⟨by omega,λ t ht=>?_⟩,by omega⟩;rcases aaU t k with h_|h_
    ·exact hwk t h_
    ·obtain rfl:t=k:=by omega
     exact⟨by omega,by omega⟩
 ·refine ae 11 [] λ _=>aap [] [] [] (v:=.bool true) (H':=[]) ?_;exact⟨by rw[aa5 (show eM lo hi ns from λ t ht=>hwk t (by omega))],rfl⟩
def gD(b:Bx):Prop:=(b.x0 <= b.x1 /\ b.y0 <= b.y1) /\ eM (-1048576) 1048576 [b.x0,b.y0,b.x1,b.y1]
instance (b:Bx):Decidable (gD b):=inferInstanceAs (Decidable (_ /\ _))
def fY(b:Bod)(x:Bx):Prop:=eM 0 4096 [b.mot.inv] /\ eM (-16384) 16384 [b.mot.vx,b.mot.vy] /\ eM x.x0 x.x1 [b.mot.px] /\ eM x.y0 x.y1 [b.mot.py] /\ eM (-2147483647) 2147483647 [b.a,b.b]
instance (b:Bod) (x:Bx):Decidable (fY b x):=inferInstanceAs (Decidable (_ /\ _))
def jV(S:Setup):Prop:=eM 1 8 [S.players] /\ eM S.players 24 [(S.nb:Int)] /\ eM 0 4194304 [S.fog] /\ eM (-16384) 16384 [S.g.x,S.g.y] /\ eM 0 16384 [S.push] /\ eM 0 1024 [S.drag,S.rest] /\ eM 1 4 [S.rounds] /\ eM 0 1000 [S.fuel]
instance (S:Setup):Decidable (jV S):=inferInstanceAs (Decidable (_ /\ _))
theorem rk(b:Bx)  (F:HL):Sp Tryz.prog 110 #[.agg #[vI b.x0,vI b.y0,vI b.x1,vI b.y1]] [] F (λ u H'=>u=.bool (decide (gD b)) /\ H'=[]):=by
 refine aat Tryz.func110 rfl mn (A:=[]) (Ts:=[]) rfl λ w0=>?_;refine ae 14 (aab 2) λ n1=>aal (b.x0 <= b.x1) 8 (λ h2=>?_) λ h2=>?_
 ·refine ae 7 (aab 2) λ _=>aal (b.y0 <= b.y1) 15 (λ h3=>?_) λ h3=>?_
  ·refine ae 9 (aab 4) λ n4=>aaj 0 (.rows 1 4 (aS [b.x0,b.y0,b.x1,b.y1]) 3 (0,0))<|aah (eI (-1048576) 1048576 [b.x0,b.y0,b.x1,b.y1] (n4+0) _ (aA 0) (aaF rfl))<|ae 4 [] λ _=>aap [] [] [] (v:=.bool (decide (eM (-1048576) 1048576 [b.x0,b.y0,b.x1,b.y1]))) (H':=[]) ?_;exact⟨by simp[gD, *],rfl⟩
  ·refine ae 14 [] λ _=>aap [] [] [] (v:=.bool false) (H':=[]) ?_;exact⟨by simp[gD, *],rfl⟩
 ·refine ae 21 [] λ _=>aap [] [] [] (v:=.bool false) (H':=[]) ?_;exact⟨by simp[gD, *],rfl⟩
theorem Er(b:Bod)(x:Bx)(F:HL):Sp Tryz.prog 112 #[.agg #[vI b.sh.r,.slice b.sh.A b.sh.poly.length b.sh.cap,vI b.mot.px,vI b.mot.py,vI b.mot.vx,vI b.mot.vy,vI b.mot.inv,vI b.a,vI b.b],.agg #[vI x.x0,vI x.y0,vI x.x1,vI x.y1]] [] F (λ u H'=>u=.bool (decide (fY b x)) /\ H'=[]):=by
 refine aat Tryz.func112 rfl mn (A:=[]) (Ts:=[]) rfl λ w0=>?_;refine ae 20 (ow 1 5++ow 0 6) λ n1=>aaj 0 (.rows 1 1 (aS [b.mot.inv]) 3 (0,0))<|aah (eI 0 4096 [b.mot.inv] (n1+3) _ (aA 0) (aaF rfl))<|ae 1 [] λ _=>aal (eM 0 4096 [b.mot.inv]) 12 (λ h2=>?_) λ h2=>?_
 ·refine ae 7 [.own 1,.own 1] λ n3=>aaj 0 (.rows 1 2 (aS [b.mot.vx,b.mot.vy]) 3 (0,0))<|aah (eI (-16384) 16384 [b.mot.vx,b.mot.vy] (n3+0) _ (aA 0) (aaF rfl))<|ae 2 [] λ _=>aal (eM (-16384) 16384 [b.mot.vx,b.mot.vy]) 22 (λ h4=>?_) λ h4=>?_
  ·refine ae 8 [.own 3,.own 3,.own 2] λ n5=>aaj 0 (.rows 1 1 (aS [b.mot.px]) 3 (0,0))<|aah (eI x.x0 x.x1 [b.mot.px] (n5+0) _ (aA 0) (aaF rfl))<|ae 2 [] λ _=>aal (eM x.x0 x.x1 [b.mot.px]) 33 (λ h6=>?_) λ h6=>?_
   ·refine ae 8 [.own 4,.own 4,.own 3] λ n7=>aaj 0 (.rows 1 1 (aS [b.mot.py]) 3 (0,0))<|aah (eI x.y0 x.y1 [b.mot.py] (n7+0) _ (aA 0) (aaF rfl))<|ae 2 [] λ _=>aal (eM x.y0 x.y1 [b.mot.py]) 44 (λ h8=>?_) λ h8=>?_
    ·refine ae 5 [.own 6,.own 6] λ n9=>aaj 0 (.rows 1 2 (aS [b.a,b.b]) 3 (0,0))<|aah (eI (-2147483647) 2147483647 [b.a,b.b] (n9+0) _ (aA 0) (aaF rfl))<|ae 4 [] λ _=>aap [] [] [] (v:=.bool (decide (eM (-2147483647) 2147483647 [b.a,b.b]))) (H':=[]) ?_;exact⟨by simp[fY, *],rfl⟩
    ·refine ae 10 [] λ _=>aap [] [] [] (v:=.bool false) (H':=[]) ?_;exact⟨by simp[fY, *],rfl⟩
   ·refine ae 21 [] λ _=>aap [] [] [] (v:=.bool false) (H':=[]) ?_;exact⟨by simp[fY, *],rfl⟩
  ·refine ae 32 [] λ _=>aap [] [] [] (v:=.bool false) (H':=[]) ?_;exact⟨by simp[fY, *],rfl⟩
 ·refine ae 42 [] λ _=>aap [] [] [] (v:=.bool false) (H':=[]) ?_;exact⟨by simp[fY, *],rfl⟩
theorem Hw(S:Setup)(F:HL):Sp Tryz.prog 109 #[(Setup.v S)] [] F (λ u H'=>u=.bool (decide (jV S)) /\ H'=[]):=by
 refine aat Tryz.func109 rfl mn (A:=[]) (Ts:=[]) rfl λ w0=>?_;refine ae 11 [.own 0] λ n1=>aaj 0 (.rows 1 1 (aS [S.players]) 3 (0,0))<|aah (eI 1 8 [S.players] (n1+1) _ (aA 0) (aaF rfl))<|ae 1 [] λ _=>aal (eM 1 8 [S.players]) 7 (λ h2=>?_) λ h2=>?_
 ·refine ae 6 [.own 1,.own 1] λ n3=>aaj 0 (.rows 1 1 (aS [(S.nb:Int)]) 3 (0,0))<|aah (eI S.players 24 [(S.nb:Int)] (n3+0) _ (aA 0) (aaF rfl))<|ae 2 [] λ _=>aal (eM S.players 24 [(S.nb:Int)]) 16 (λ h4=>?_) λ h4=>?_
  ·refine ae 3 [.own 2] λ n5=>aaj 0 (.rows 1 1 (aS [S.fog]) 3 (0,0))<|aah (eI 0 4194304 [S.fog] (n5+0) _ (aA 0) (aaF rfl))<|ae 2 [] λ _=>aal (eM 0 4194304 [S.fog]) 22 (λ h6=>?_) λ h6=>?_
   ·refine ae 7 [.own 3,.own 3] λ n7=>aaj 0 (.rows 1 2 (aS [S.g.x,S.g.y]) 3 (0,0))<|aah (eI (-16384) 16384 [S.g.x,S.g.y] (n7+0) _ (aA 0) (aaF rfl))<|ae 2 [] λ _=>aal (eM (-16384) 16384 [S.g.x,S.g.y]) 32 (λ h8=>?_) λ h8=>?_
    ·refine ae 3 [.own 4] λ n9=>aaj 0 (.rows 1 1 (aS [S.push]) 3 (0,0))<|aah (eI 0 16384 [S.push] (n9+0) _ (aA 0) (aaF rfl))<|ae 2 [] λ _=>aal (eM 0 16384 [S.push]) 38 (λ TO=>?_) λ TO=>?_
     ·refine ae 5 [.own 5,.own 5] λ n11=>aaj 0 (.rows 1 2 (aS [S.drag,S.rest]) 3 (0,0))<|aah (eI 0 1024 [S.drag,S.rest] (n11+0) _ (aA 0) (aaF rfl))<|ae 2 [] λ _=>aal (eM 0 1024 [S.drag,S.rest]) 46 (λ Ss=>?_) λ Ss=>?_
      ·refine ae 3 [.own 6] λ n13=>aaj 0 (.rows 1 1 (aS [S.rounds]) 3 (0,0))<|aah (eI 1 4 [S.rounds] (n13+0) _ (aA 0) (aaF rfl))<|ae 2 [] λ _=>aal (eM 1 4 [S.rounds]) 52 (λ TN=>?_) λ TN=>?_
       ·refine ae 3 [.own 7] λ n15=>aaj 0 (.rows 1 1 (aS [S.fuel]) 3 (0,0))<|aah (eI 0 1000 [S.fuel] (n15+0) _ (aA 0) (aaF rfl))<|ae 4 [] λ _=>aap [] [] [] (v:=.bool (decide (eM 0 1000 [S.fuel]))) (H':=[]) ?_;exact⟨by simp[jV, *],rfl⟩
       ·refine ae 8 [] λ _=>aap [] [] [] (v:=.bool false) (H':=[]) ?_;exact⟨by simp[jV, *],rfl⟩
      ·refine ae 14 [] λ _=>aap [] [] [] (v:=.bool false) (H':=[]) ?_;exact⟨by simp[jV, *],rfl⟩
     ·refine ae 22 [] λ _=>aap [] [] [] (v:=.bool false) (H':=[]) ?_;exact⟨by simp[jV, *],rfl⟩
    ·refine ae 28 [] λ _=>aap [] [] [] (v:=.bool false) (H':=[]) ?_;exact⟨by simp[jV, *],rfl⟩
   ·refine ae 38 [] λ _=>aap [] [] [] (v:=.bool false) (H':=[]) ?_;exact⟨by simp[jV, *],rfl⟩
  ·refine ae 44 [] λ _=>aap [] [] [] (v:=.bool false) (H':=[]) ?_;exact⟨by simp[jV, *],rfl⟩
 ·refine ae 53 [] λ _=>aap [] [] [] (v:=.bool false) (H':=[]) ?_;exact⟨by simp[jV, *],rfl⟩
def rm(n:Nat)(d:Dr):Prop:=eM 0 ((n:Int)-1) [d.a,d.b] /\ ¬ d.a=d.b
instance (n:Nat) (d:Dr):Decidable (rm n d):=inferInstanceAs (Decidable (_ /\ _))
def mE(S:Setup)(rs:List Bx)(ds:List Dr):Prop:=((S.rn:Int) <= 8 /\ (S.dn:Int) <= 16) /\ (∀k,k<S.rn -> gD (rs.getD k xJ.dflt)) /\ ∀k,k<S.dn -> rm S.rn (ds.getD k mY.dflt)
instance (S:Setup) (rs:List Bx) (ds:List Dr):Decidable (mE S rs ds):=inferInstanceAs (Decidable (_ /\ _ /\ _))
theorem Hy(S:Setup)(rs:List Bx)(ds:List Dr)(F:HL)(hM:MapIn F S rs ds):Sp Tryz.prog 111 #[(Setup.v S)] [] F (λ u H'=>u=.bool (decide (mE S rs ds)) /\ H'=[]):=by
 refine aat Tryz.func111 rfl mn (A:=[]) (Ts:=[]) rfl λ w0=>?_;refine ae 14 [.own 0] λ n1=>aal ((S.rn:Int)>8) 11 (λ h2=>?_) λ h2=>?_
 ·refine ae 13 [] λ _=>aap [] [] [] (v:=.bool false) (H':=[]) ?_;exact⟨by rw[aa4 (show ¬ mE S rs ds from λ h_=>by have:=h_.1;omega)],rfl⟩
 ·refine ae 7 [.own 0] λ _=>aal ((S.dn:Int)>16) 16 (λ h3=>?_) λ h3=>?_
  ·refine ae 6 [] λ _=>aap [] [] [] (v:=.bool false) (H':=[]) ?_;exact⟨by rw[aa4 (show ¬ mE S rs ds from λ h_=>by have:=h_.1;omega)],rfl⟩
  ·refine ae 13 [.own 0] λ _=>aan (σ:=Nat) (λ k=>⟨[(1,vP (n1+0) 0),(18,.slice S.rA S.rn S.rc),(19,vI (S.rn:Int)),(20,vI (k:Int))],[((n1+0),.lit (Setup.l S) 31 (0,0))],[],k <= S.rn /\ ∀t,t<k -> gD (rs.getD t xJ.dflt),S.rn-k⟩) 0 [0] [] (⟨aaJ _,λ t ht=>absurd ht (Nat.not_lt_zero _)⟩) ?_;rintro k ⟨hkl,Wb⟩ Yf;refine ae 6 [] λ _=>aal ((k:Int)<(S.rn:Int)) 21 (λ h6=>?_) λ h6=>?_
   ·refine ae 7 [] λ _=>?_;obtain⟨qx7,Uy,Nx7,fx7,anq,ado,afw,alM,agj⟩:=hM.rooms.at (k:=k) (by omega);refine aK 18 (congrArg (λ v_=>(.slice v_ S.rn S.rc:Value)) ado)<|RN.ro (λ _=>(mc afw mn))<|ai 2 [.ix k,.rorow 0 (Uy+k) 0,.rorow 0 (Uy+k) 1,.rorow 0 (Uy+k) 2,.rorow 0 (Uy+k) 3] [((Uy*4+k*4)+3)=(Uy+k)*4+3 /\ (Uy+k)<Nx7,((Uy*4+k*4)+2)=(Uy+k)*4+2 /\ (Uy+k)<Nx7,((Uy*4+k*4)+1)=(Uy+k)*4+1 /\ (Uy+k)<Nx7,(Uy*4+k*4)=(Uy+k)*4+0 /\ (Uy+k)<Nx7,(k:Int)=((k:Nat):Int) /\ k<S.rn] λ _=>aK 23 (congrArg (λ v_=>(.agg #[vI v_.x0,vI v_.y0,vI v_.x1,vI v_.y1]:Value)) agj)<|ae 7 (ow 0 8) λ n8=>aah (rk (rs.getD k xJ.dflt)  _)<|ae 3 [] λ _=>aam (gD (rs.getD k xJ.dflt)) 26 (λ h9=>?_) λ h9=>?_
    ·refine ai 8 [.nw] [aZ ((k:Int)+1)] λ _=>aK 18 (congrArg (λ v_=>(.slice v_ S.rn S.rc:Value)) ado.symm) ?_;refine Yf (k+1) [1] [] ?_
     try dsimp only
     refine⟨⟨by omega,λ t ht=>?_⟩,by omega⟩;rcases aaU t k with h_|h_
     ·exact Wb t h_
     ·obtain rfl:t=k:=by omega
      exact h9
    ·refine ae 6 [] λ _=>aap [] [] [] (v:=.bool false) (H':=[]) ?_;exact⟨by rw[aa4 (show ¬ mE S rs ds from λ h_=>h9 (h_.2.1 k (by omega)))],rfl⟩
   ·refine ae 16 [.own 0] λ _=>aan (σ:=Nat) (λ j=>⟨[(1,vP (n1+0) 0),(29,.slice S.dA S.dn S.dc),(30,vI (S.dn:Int)),(31,vI (j:Int))],[((n1+0),.lit (Setup.l S) 31 (0,0))],[],j <= S.dn /\ ∀t,t<j -> rm S.rn (ds.getD t mY.dflt),S.dn-j⟩) 0 [0] [] (⟨aaJ _,λ t ht=>absurd ht (Nat.not_lt_zero _)⟩) ?_;rintro j ⟨UG,ZO⟩ YX;refine ae 6 [] λ _=>aal ((j:Int)<(S.dn:Int)) 32 (λ Ss=>?_) λ Ss=>?_
    ·refine ae 7 [] λ _=>?_;obtain⟨akF,Uj,adN,anv,ajJ,YN,abT,aiR,ack⟩:=hM.doors.at (k:=j) (by omega);refine aK 29 (congrArg (λ v_=>(.slice v_ S.dn S.dc:Value)) YN)<|RN.ro (λ _=>(mc abT mn))<|ai 2 [.ix j,.rorow 0 (Uj+j) 0,.rorow 0 (Uj+j) 1] [((Uj*2+j*2)+1)=(Uj+j)*2+1 /\ (Uj+j)<adN,(Uj*2+j*2)=(Uj+j)*2+0 /\ (Uj+j)<adN,(j:Int)=((j:Nat):Int) /\ j<S.dn] λ _=>aK 34 (congrArg (λ v_=>(.agg #[vI v_.a,vI v_.b]:Value)) ack)<|ai 15 [.own 0,.own 0,.own 1,.nw,.own 0,.own 0] [aZ ((S.rn:Int)-1)] λ n14=>aaj 0 (.rows 1 2 (aS [(ds.getD j mY.dflt).a,(ds.getD j mY.dflt).b]) 3 (0,0))<|aah (eI 0 ((S.rn:Int)-1) [(ds.getD j mY.dflt).a,(ds.getD j mY.dflt).b] (n14+1) _ (aA 0) (aaF rfl))<|ae 2 [] λ _=>aam (eM 0 ((S.rn:Int)-1) [(ds.getD j mY.dflt).a,(ds.getD j mY.dflt).b]) 46 (λ VK=>?_) λ VK=>?_
     ·refine ae 8 [.own 1,.own 1] λ _=>aal ((ds.getD j mY.dflt).a=(ds.getD j mY.dflt).b) 52 (λ SG=>?_) λ SG=>?_
      ·refine ae 6 [] λ _=>aap [] [] [] (v:=.bool false) (H':=[]) ?_;exact⟨by rw[aa4 (show ¬ mE S rs ds from λ h_=>(h_.2.2 j (by omega)).2 SG)],rfl⟩
      ·refine ai 8 [.nw] [aZ ((j:Int)+1)] λ _=>aK 29 (congrArg (λ v_=>(.slice v_ S.dn S.dc:Value)) YN.symm) ?_;refine YX (j+1) [2] [] ?_
       try dsimp only
       refine⟨⟨by omega,λ t ht=>?_⟩,by omega⟩;rcases aaU t j with h_|h_
       ·exact ZO t h_
       ·obtain rfl:t=j:=by omega
        exact⟨VK,SG⟩
     ·refine ae 14 [] λ _=>aap [] [] [] (v:=.bool false) (H':=[]) ?_;exact⟨by rw[aa4 (show ¬ mE S rs ds from λ h_=>VK (h_.2.2 j (by omega)).1)],rfl⟩
    ·refine ae 11 [] λ _=>aap [] [] [] (v:=.bool true) (H':=[]) ?_;exact⟨by rw[aa5 (show mE S rs ds from ⟨⟨by omega,by omega⟩,λ t ht=>Wb t (by omega),λ t ht=>ZO t (by omega)⟩)],rfl⟩
end Go.Proofs.YtdppjkjbghbnjaaGreatDoor
