import Derived.Test.YtdppjkjbghbnjaaGreatDoorC08
set_option maxHeartbeats 4000000
set_option maxRecDepth 100000
set_option linter.all false
namespace Go.Proofs.YtdppjkjbghbnjaaGreatDoor
open IntKind
open Go.RowKit
def wj(cs:List Int)(i:Nat):List Int:=cs.take i++List.replicate (cs.length-i) 0
theorem tG(n:Nat):kX [vI 0]=aE (List.replicate n 0):=by
 funext i k;rcases k with _|k
 ·have:(List.replicate n (0:Int)).getD i 0=0:=by
   rw[aaI,List.getElem?_replicate];split <;> rfl
  show vI 0=vI _;rw[this]
 ·simp[kX,aE]
theorem xw(cs:List Int):kX [vI 0]=aE (wj cs 0):=by rw[tG cs.length];simp[wj]
theorem Cb(cs:List Int):wj cs cs.length=cs:=by simp[wj]
theorem xx{cs:List Int}{i:Nat}(h:i<cs.length):cT (aE (wj cs i)) i 0 (vI (cs.getD i 0))=aE (wj cs (i+1)):=by
 rw[fX (by simp[wj];omega)];congr 1;unfold wj;rw[List.set_append_right _ _ (by simp;omega)];have e:cs.length-i=(cs.length-(i+1))+1:=by omega
 rw[e,List.replicate_succ,List.take_succ_eq_append_getElem h,aaH];simp[aaQ,Nat.min_eq_left (Nat.le_of_lt h),h]
theorem MemH.len{mb:Nat}{M:MemS}{k:Nat}{T:HL}(h:MemH mb M k T):M.cs.length <= 1000000:=by
 cases h with
 | mk cb A cap Hl hs hc hl=>exact hc
theorem K9(mb cb n:Nat)(A:Option Addr)(m cap:Nat)(base:Int)(F:HL)(hm:(mb,.lit [vS cb 0 n n,.slice A m cap,vI base] 162 (0,0))∈F):Sp Tryz.prog 79 #[vP mb 0] [] F (λ u H'=>u=vI (n:Int) /\ H'=[]):=by
 refine aau Tryz.func79 rfl (mc hm mn) (A:=[]) (Ts:=[]) rfl λ w0=>?_;refine ae 15 [.ro 0] λ _=>?_;exact aaq [] [] [] ⟨rfl,rfl⟩
theorem vq{mb:Nat}{M:MemS}{k:Nat}{T:HL}{F:HL}(h:MemH mb M k T)(hs:∀x∈T,x∈F):Sp Tryz.prog 79 #[vP mb 0] [] F (λ u H'=>u=vI (M.cs.length:Int) /\ H'=[]):=by
 cases h with
 | mk cb A cap Hl UA hc hl=>exact K9 mb cb M.cs.length A M.lg.length cap M.base F (hs _ (by simp))
theorem Lb{M:MemS}{i:Nat}(h:i<M.cs.length):M.get (i:Int)=M.cs.getD i 0:=by
 unfold MemS.get;rw[if_pos (by omega),Int.toNat_natCast]
theorem Er(mb:Nat)(M:MemS)(k:Nat)(T F:HL)(hM:MemH mb M k T)(hT:∀x∈T,x∈F):Sp Tryz.prog 56 #[vP mb 0] (ap [] []) F (λ u H'=>∃q,H'=ap [(q,.rows 1 M.cs.length (aE M.cs) 3 (0,0))] [] /\ u=vS q 0 M.cs.length M.cs.length):=by
 have hl:=hM.len;refine aau Tryz.func56 rfl mn (A:=[]) (Ts:=[]) rfl λ w0=>?_;refine ae 8 [] λ _=>aai (vq hM (λ x hx=>aay _ (hT x hx)))<|ai 8 [.mk M.cs.length M.cs.length] [(M.cs.length:Int)=((M.cs.length:Nat):Int) /\ (M.cs.length:Int)=((M.cs.length:Nat):Int) /\ M.cs.length <= M.cs.length /\ 8*M.cs.length <= 140737488355328 /\ 1=1 /\ M.cs.length <= 9223372036854775807] λ n1=>aai (vq hM (λ x hx=>aay _ (hT x hx)))<|ae 4 [] λ _=>aah 0 (congrArg (λ v_=>(.rows 1 M.cs.length v_ 3 (0,0):Blk)) (show (kX [vI 0])=(aE (wj M.cs 0)) from (by rw[xw M.cs])))<|aao (σ:=Nat) (λ i=>⟨[(0,vP mb 0),(3,vS (n1+0) 0 M.cs.length M.cs.length),(9,vI (M.cs.length:Int)),(10,vI (i:Int))],[((n1+0),.rows 1 M.cs.length (aE (wj M.cs i)) 3 (0,0))],[],i <= M.cs.length,M.cs.length-i⟩) 0 [0] [] (aaL _) ?_;rintro i YQ Sm;refine ae 6 [] λ _=>aam ((i:Int)<(M.cs.length:Int)) 11 (λ h4=>?_) λ h4=>?_
 ·refine ae 16 [] λ _=>aai (av (i:Int) hM (λ x hx=>aay _ (hT x hx)))<|ai 9 [.ix i,.row 0 i 0,.nw] [bn ((i:Int)+1),(0+i*1)=i*1+0 /\ i<M.cs.length,(i:Int)=((i:Nat):Int) /\ i<M.cs.length] λ _=>aah 0 (congrArg (λ v_=>(.rows 1 M.cs.length v_ 3 (0,0):Blk)) (show (cT (aE (wj M.cs i)) i 0 (vI (M.get (i:Int))))=(aE (wj M.cs (i+1))) from (by rw[<- xx (cs:=M.cs) (i:=i) (by omega)];rw[Lb (by omega)]))) ?_;refine Sm (i+1) [0] [] ?_
  try dsimp only
  exact⟨by omega,by omega⟩
 ·refine ae 12 [] λ _=>aaq [] [0] [] (v:=vS (n1+0) 0 M.cs.length M.cs.length) (H':=[((n1+0),.rows 1 M.cs.length (aE (wj M.cs i)) 3 (0,0))]) ?_;have ei:i=M.cs.length:=by omega
  subst ei;exact⟨_,by rw[Cb];rfl,rfl⟩
theorem Lc(q:Nat)(cs:List Int)(k cap:Nat)(F:HL)(hq:(q,.rows 1 cs.length (aE cs) 3 (0,0))∈F)(hc:cs.length <= 1000000)(hk:k <= 100000000)(hcap:cs.length <= cap):Sp Tryz.prog 87 #[vS q 0 cs.length cap] [] F (λ u H'=>∃x:Nat × HL,H'=ap [] [x.2] /\ (u=vP x.1 0 /\ MemH x.1 ⟨cs,[],0⟩ k x.2)):=by
 refine aau Tryz.func87 rfl (mc hq mn) (A:=[]) (Ts:=[]) rfl λ w0=>?_;refine ai 24 [.mk cs.length cs.length] [(cs.length:Int)=((cs.length:Nat):Int) /\ (cs.length:Int)=((cs.length:Nat):Int) /\ cs.length <= cs.length /\ 8*cs.length <= 140737488355328 /\ 1=1 /\ cs.length <= 9223372036854775807] λ n1=>aah 1 (congrArg (λ v_=>(.rows 1 cs.length v_ 3 (0,0):Blk)) (show (kX [vI 0])=(aE (wj cs 0)) from (by rw[xw cs])))<|aao (σ:=Nat) (λ i=>⟨[(0,vS q 0 cs.length cap),(3,vP (n1+1) 0),(11,vI (cs.length:Int)),(12,vI (i:Int))],[((n1+1),.lit [vS (n1+0) 0 cs.length cs.length,.slice none 0 0,vI 0] 162 (0,0)),((n1+0),.rows 1 cs.length (aE (wj cs i)) 3 (0,0))],[],i <= cs.length,cs.length-i⟩) 0 [0,1] [] (aaL _) ?_;rintro i YQ Sm;refine ae 6 [] λ _=>aam ((i:Int)<(cs.length:Int)) 13 (λ h4=>?_) λ h4=>?_
 ·refine ae 11 [] λ _=>aal [10] []<|aA [] [0,4,5,6,1,7,2,8,3,9] [.ix i,.rorow 0 i 0,.own 0,.ix i] [(i:Int)=((i:Nat):Int) /\ i<cs.length,(0+i*1)=i*1+0 /\ i<cs.length,(i:Int)=((i:Nat):Int) /\ i<cs.length]<|aae 10 (dM [] [.row 1 i 0] [(0+i*1)=i*1+0 /\ i<cs.length] λ _=>?_);refine aad<|ai 6 [.nw] [bn ((i:Int)+1)] λ _=>aah 1 (congrArg (λ v_=>(.rows 1 cs.length v_ 3 (0,0):Blk)) (show (cT (aE (wj cs i)) i 0 (vI (cs.getD i 0)))=(aE (wj cs (i+1))) from (by rw[<- xx (cs:=cs) (i:=i) (by omega)]))) ?_;refine Sm (i+1) [0,1] [] ?_
  try dsimp only
  exact⟨by omega,by omega⟩
 ·refine ae 12 [] λ _=>aaq [] [0,1] [] (v:=vP (n1+1) 0) (H':=[((n1+1),.lit [vS (n1+0) 0 cs.length cs.length,.slice none 0 0,vI 0] 162 (0,0)),((n1+0),.rows 1 cs.length (aE (wj cs i)) 3 (0,0))]) ?_;have ei:i=cs.length:=by omega
  subst ei;rw[Cb];have hmm:=MemH.mk (mb:=(n1+1)) (M:=⟨cs,[],0⟩) (k:=k) (n1+0) none 0 [] (aat _ _) hc (show ([]:List (Int × Int)).length+k <= 100000000 by simpa using hk);exact⟨((n1+1),_),rfl,rfl,hmm⟩
def ay(n Sz:Int):Int:=(if n<0 then bd (0-bd (n+1)) else n).tmod Sz
theorem i8(n:Int)(Sz:Int)(h0:Sz≠0)(F:HL):Sp Tryz.prog 11 #[vI n,vI Sz] [] F (λ u H'=>u=vI (ay n Sz) /\ H'=[]):=by
 refine aau Tryz.func11 rfl mn (A:=[]) (Ts:=[]) rfl λ w0=>?_;refine ae 12 [] λ _=>aam (n<0) 6 (λ h1=>?_) λ h1=>?_
 ·refine qH 16 [.gen,.dv] (λ _=>[Sz≠0]) (λ _=>(ac h0 an)) λ _=>aaq [] [] [] (v:=vI ((i64.wrap (0-(i64.wrap (n+1)))).tmod Sz)) (H':=[]) ?_;exact⟨by unfold ay;simp[*],rfl⟩
 ·refine qH 11 [.dv] (λ _=>[Sz≠0]) (λ _=>(ac h0 an)) λ _=>aaq [] [] [] (v:=vI (n.tmod Sz)) (H':=[]) ?_;exact⟨by unfold ay;simp[*],rfl⟩
def qW(n:Int):Int:=ay n 1000
def oT(n:Int):Int:=bd (512*bd (1+(bd ((qW n).tdiv 7)).tmod 5))
def sI(r:Int):List V2:=[⟨bd (0-r),bd (0-r)⟩,⟨r,bd (0-r)⟩,⟨r,r⟩,⟨bd (0-r),r⟩]
def xy(r:Int):List V2:=[⟨bd (0-r),bd (0-r)⟩,⟨r,bd (0-r)⟩,⟨0,r⟩]
def xz(r:Int):List V2:=[⟨bd (-2*r),-300⟩,⟨bd (2*r),-300⟩,⟨bd (2*r),300⟩,⟨bd (-2*r),300⟩]
def cR(n:Int):Int × List V2:=if (qW n).tmod 7=0 then (oT n,[]) else if (qW n).tmod 7=1 then (oT n,[]) else if (qW n).tmod 7=2 then (oT n,[]) else if (qW n).tmod 7=3 then (0,sI (oT n)) else if (qW n).tmod 7=4 then (0,sI (oT n)) else if (qW n).tmod 7=5 then (0,xy (oT n)) else (0,xz (oT n))
def ShH(s:Shp)(T:HL):Prop:=∀F,(∀x∈T,x∈F) -> ShIn F s
theorem ShH.circle(r:Int)(A:Option Addr)(cap:Nat):ShH ⟨r,[],A,cap⟩ []:=λ F _=>.circle r A cap
theorem ShH.poly(r:Int)(l:List V2)(b cap:Nat)(h3:3 <= l.length)(h4:l.length <= cap)(h5:l.length <= 1000000):ShH ⟨r,l,some ⟨b,0,none⟩,cap⟩ [(b,.rows 2 cap (jU l) 29 (0,0))]:=λ F h=>.poly r l b cap (h _ (by simp)) h3 h4 h5
theorem xA(n:Int)(F:HL):Sp Tryz.prog 40 #[vI n] [] F (λ u H'=>∃x:Option Addr × Nat × HL,H'=ap [] [x.2.2] /\ (u=O8 ⟨(cR n).1,(cR n).2,x.1,x.2.1⟩ /\ ShH ⟨(cR n).1,(cR n).2,x.1,x.2.1⟩ x.2.2)):=by
 refine aau Tryz.func40 rfl mn (A:=[]) (Ts:=[]) rfl λ w0=>?_;refine ae 8 [] λ n1=>aai (i8 n 1000 (by decide) _)<|ae 28 [] λ _=>aam ((qW n).tmod 7=0) 14 (λ h2=>?_) λ h2=>?_
 ·refine ae 11 (aab 2) λ _=>aaq (aab 2) [] [] (v:=.agg #[vI (i64.wrap (512*(i64.wrap (1+((i64.wrap ((qW n).tdiv 7)).tmod 5))))),.slice none 0 0]) (H':=[]) ?_;have e:cR n=(oT n,[]):=by simp only[cR,if_pos h2]
  rw[e];exact⟨(none,0,[]),rfl,rfl,ShH.circle _ _ _⟩
 ·refine ae 7 [] λ _=>aam ((qW n).tmod 7=1) 14 (λ h3=>?_) λ h3=>?_
  ·refine ae 11 (aab 2) λ _=>aaq (aab 2) [] [] (v:=.agg #[vI (i64.wrap (512*(i64.wrap (1+((i64.wrap ((qW n).tdiv 7)).tmod 5))))),.slice none 0 0]) (H':=[]) ?_;have e:cR n=(oT n,[]):=by simp only[cR,if_neg h2,if_pos h3]
   rw[e];exact⟨(none,0,[]),rfl,rfl,ShH.circle _ _ _⟩
  ·refine ae 6 [] λ _=>aam ((qW n).tmod 7=2) 14 (λ h4=>?_) λ h4=>?_
   ·refine ae 8 (aab 2) λ _=>aaq (aab 2) [] [] (v:=.agg #[vI (i64.wrap (512*(i64.wrap (1+((i64.wrap ((qW n).tdiv 7)).tmod 5))))),.slice none 0 0]) (H':=[]) ?_;have e:cR n=(oT n,[]):=by simp only[cR,if_neg h2,if_neg h3,if_pos h4]
    rw[e];exact⟨(none,0,[]),rfl,rfl,ShH.circle _ _ _⟩
   ·refine ae 8 [] λ _=>aam ((qW n).tmod 7=3) 20 (λ h5=>?_) λ h5=>?_
    ·refine ae 27 (ow 1 2) λ n6=>aak 0 (.rows 2 4 (jU (sI (oT n))) 29 (0,0))<|aaq (ow 1 2) [0] [] (v:=.agg #[vI 0,vS (n6+0) 0 4 4]) (H':=[((n6+0),.rows 2 4 (jU (sI (oT n))) 29 (0,0))]) ?_;have e:cR n=(0,sI (oT n)):=by simp only[cR,if_neg h2,if_neg h3,if_neg h4,if_pos h5]
     rw[e];exact⟨(some ⟨(n6+0),0,none⟩,4,_),rfl,rfl,ShH.poly 0 (sI (oT n)) (n6+0) 4 (aaJ rfl) (aaJ rfl) (aaJ rfl)⟩
    ·refine ae 6 [] λ _=>aam ((qW n).tmod 7=4) 20 (λ h7=>?_) λ h7=>?_
     ·refine ae 24 (ow 1 2) λ n8=>aak 0 (.rows 2 4 (jU (sI (oT n))) 29 (0,0))<|aaq (ow 1 2) [0] [] (v:=.agg #[vI 0,vS (n8+0) 0 4 4]) (H':=[((n8+0),.rows 2 4 (jU (sI (oT n))) 29 (0,0))]) ?_;have e:cR n=(0,sI (oT n)):=by simp only[cR,if_neg h2,if_neg h3,if_neg h4,if_neg h5,if_pos h7]
      rw[e];exact⟨(some ⟨(n8+0),0,none⟩,4,_),rfl,rfl,ShH.poly 0 (sI (oT n)) (n8+0) 4 (aaJ rfl) (aaJ rfl) (aaJ rfl)⟩
     ·refine ae 7 [] λ _=>aam ((qW n).tmod 7=5) 41 (λ h9=>?_) λ h9=>?_
      ·refine ae 19 (ow 1 2) λ TG=>aak 0 (.rows 2 3 (jU (xy (oT n))) 29 (0,0))<|aaq (ow 1 2) [0] [] (v:=.agg #[vI 0,vS (TG+0) 0 3 3]) (H':=[((TG+0),.rows 2 3 (jU (xy (oT n))) 29 (0,0))]) ?_;have e:cR n=(0,xy (oT n)):=by simp only[cR,if_neg h2,if_neg h3,if_neg h4,if_neg h5,if_neg h7,if_pos h9]
       rw[e];exact⟨(some ⟨(TG+0),0,none⟩,3,_),rfl,rfl,ShH.poly 0 (xy (oT n)) (TG+0) 3 (aaJ rfl) (aaJ rfl) (aaJ rfl)⟩
      ·refine ae 23 (ow 1 2) λ n11=>aak 0 (.rows 2 4 (jU (xz (oT n))) 29 (0,0))<|aaq (ow 1 2) [0] [] (v:=.agg #[vI 0,vS (n11+0) 0 4 4]) (H':=[((n11+0),.rows 2 4 (jU (xz (oT n))) 29 (0,0))]) ?_;have e:cR n=(0,xz (oT n)):=by simp only[cR,if_neg h2,if_neg h3,if_neg h4,if_neg h5,if_neg h7,if_neg h9]
       rw[e];exact⟨(some ⟨(n11+0),0,none⟩,4,_),rfl,rfl,ShH.poly 0 (xz (oT n)) (n11+0) 4 (aaJ rfl) (aaJ rfl) (aaJ rfl)⟩
theorem oU{S:Setup}(h:SetN S){i:Nat}(hi:i<S.nb):0 <= af S i /\ af S i+8 <= sizeOf S /\ sizeOf S <= 20000000:=by
 have:=h.pl;have:=h.nb;unfold af sizeOf;rw[if_neg (by omega),if_neg (by omega)];omega
theorem Es{S:Setup}(h:SetN S):48 <= sizeOf S /\ sizeOf S <= 20000000:=by
 have:=h.pl;have:=h.nb;unfold sizeOf;omega
def cV(S:Setup):Nat -> List Int
 | 0=>List.replicate (sizeOf S).toNat 0
 | i+1=>((((((cV S i).set (af S i).toNat (S.body i).mot.px).set (af S i+1).toNat (S.body i).mot.py).set (af S i+2).toNat (S.body i).mot.vx).set (af S i+3).toNat (S.body i).mot.vy).set (af S i+4).toNat (S.body i).a).set (af S i+5).toNat (S.body i).b
theorem fZ(S:Setup):∀i,(cV S i).length=(sizeOf S).toNat
 | 0=>by simp[cV]
 | i+1=>by simp[cV,fZ S i]
theorem Et{S:Setup}(h:SetN S){i:Nat}(hi:i<S.nb):cT (cT (cT (cT (cT (cT (aE (cV S i)) (af S i).toNat 0 (vI (S.body i).mot.px)) (af S i+1).toNat 0 (vI (S.body i).mot.py)) (af S i+2).toNat 0 (vI (S.body i).mot.vx)) (af S i+3).toNat 0 (vI (S.body i).mot.vy)) (af S i+4).toNat 0 (vI (S.body i).a)) (af S i+5).toNat 0 (vI (S.body i).b)=aE (cV S (i+1)):=by
 have:=oU h hi;rw[fX,fX,fX,fX,fX,fX,cV] <;> (simp only[List.length_set,fZ];omega)
def Am:Enc Int:=⟨1,λ p k=>match k with|0=>vI p|_=>vI p,0⟩
noncomputable def MG:TypeInfo:=match Tryz.prog.info? 3 with | some i=>i | none=>⟨.bool,"",0,0,false,0,0,none,false,#[]⟩
noncomputable def MH:Value:=match MG.zero with|some z=>z|none=>.bool false
theorem Hs:EncOk Am Tryz.prog 3 MG MH where
 info:=by kernel_rfl
 zero:=by kernel_rfl
 size:=by kernel_rfl
 zsize:=by kernel_rfl
 zcell:=λ k hk=>by
  have h:∀k<1,MH.cells[k]?=some (Am.cell Am.dflt k):=by intro k hk;(iterate 1 (rcases k with _|k;· kernel_rfl));omega
  exact h k hk
 one:=λ x k=>by unfold Am;dsimp only;split <;> rfl
 bytes:=aaJ (by kernel_rfl)
abbrev oV(n:Int):Prop:=-9223372036854775808 <= n /\ n <= 9223372036854775807
theorem dg{n:Int}(hn:oV n)(Sz:Int)(h:0<Sz):0 <= ay n Sz /\ ay n Sz<Sz:=by
 unfold ay;have hx:0 <= (if n<0 then bd (0-bd (n+1)) else n):=by
  split
  ·rw[dh (x:=n+1) (by omega),dh (by omega)];omega
  ·omega
 exact⟨Int.tmod_nonneg _ hx,Int.tmod_lt_of_pos _ h⟩
inductive ArgL(F:HL):Option Addr -> Nat -> List Int -> Prop
 | zero (A:Option Addr):ArgL F A 0 []
 | cells (q o N:Nat) (g:Nat -> Nat -> Value) (ty:TypeId) (fz:Nat × Nat) (xs:List Int) (hq:(q,.rows 1 N g ty fz)∈F) (ho:o+xs.length <= N) (hx:∀k,k<xs.length -> g (o+k) 0=vI (xs.getD k 0)) (hb:∀k,k<xs.length -> oV (xs.getD k 0)):ArgL F (some ⟨q,o,none⟩) xs.length xs
theorem ArgL.up{F X:HL}{A:Option Addr}{n:Nat}{xs:List Int}(h:ArgL F A n xs):ArgL (X++F) A n xs:=by
 cases h with
 | zero=>exact .zero _
 | cells q o N g ty fz xs hq ho hx hb=>exact .cells q o N g ty fz xs (aay _ hq) ho hx hb
theorem ArgL.len{F:HL}{A:Option Addr}{n:Nat}{xs:List Int}(h:ArgL F A n xs):xs.length=n:=by
 cases h <;> rfl
theorem ArgL.at{F:HL}{A:Option Addr}{n:Nat}{xs:List Int}(h:ArgL F A n xs){k:Nat}(hk:k<n):∃q o N g ty fz,A=some ⟨q,o,none⟩ /\ (q,.rows 1 N g ty fz)∈F /\ o+k<N /\ g (o+k) 0=vI (xs.getD k 0) /\ oV (xs.getD k 0):=by
 cases h with
 | zero=>omega
 | cells q o N g ty fz xs hq ho hx hb=>exact⟨q,o,N,g,ty,fz,rfl,hq,by omega,hx k hk,hb k hk⟩
def kv(xs:List Int)(i:Nat):Int:=if i<xs.length then ay (xs.getD i 0) 1000000 else 0
theorem iu{F:HL}{A:Option Addr}{n:Nat}{xs:List Int}(h:ArgL F A n xs)(i:Nat):0 <= kv xs i /\ kv xs i<1000000:=by
 unfold kv;split
 ·next hi =>
  rw[h.len] at hi;obtain⟨_,_,_,_,_,_,_,_,_,_,hr⟩:=h.at hi;exact dg hr 1000000 (by decide)
 ·omega
def ks(xs:List Int)(n:Nat):List Int:=(List.range n).map (kv xs)
theorem mW(xs:List Int)(n:Nat):(ks xs n).length=n:=by simp[ks]
theorem Cc(xs:List Int)(n:Nat):ks xs (n+1)=ks xs n++[kv xs n]:=by simp[ks,List.range_succ]
theorem NX{xs:List Int}{n i:Nat}(h:i<n):(ks xs n).getD i 0=kv xs i:=by simp[ks,h]
structure Dr where (a b:Int)
def lw:Enc V2:=⟨2,λ p k=>match k with|0=>vI p.x|_=>vI p.y,⟨0,0⟩⟩
noncomputable def MI:TypeInfo:=match Tryz.prog.info? 29 with | some i=>i | none=>⟨.bool,"",0,0,false,0,0,none,false,#[]⟩
noncomputable def MJ:Value:=match MI.zero with|some z=>z|none=>.bool false
theorem An:EncOk lw Tryz.prog 29 MI MJ where
 info:=by kernel_rfl
 zero:=by kernel_rfl
 size:=by kernel_rfl
 zsize:=by kernel_rfl
 zcell:=λ k hk=>by
  have h:∀k<2,MJ.cells[k]?=some (lw.cell lw.dflt k):=by intro k hk;(iterate 2 (rcases k with _|k;· kernel_rfl));omega
  exact h k hk
 one:=λ x k=>by unfold lw;dsimp only;split <;> rfl
 bytes:=aaJ (by kernel_rfl)
def xB:Enc Bx:=⟨4,λ p k=>match k with|0=>vI p.x0|1=>vI p.y0|2=>vI p.x1|_=>vI p.y1,⟨0,0,0,0⟩⟩
noncomputable def P2:TypeInfo:=match Tryz.prog.info? 25 with | some i=>i | none=>⟨.bool,"",0,0,false,0,0,none,false,#[]⟩
noncomputable def P3:Value:=match P2.zero with|some z=>z|none=>.bool false
theorem Ht:EncOk xB Tryz.prog 25 P2 P3 where
 info:=by kernel_rfl
 zero:=by kernel_rfl
 size:=by kernel_rfl
 zsize:=by kernel_rfl
 zcell:=λ k hk=>by
  have h:∀k<4,P3.cells[k]?=some (xB.cell xB.dflt k):=by intro k hk;(iterate 4 (rcases k with _|k;· kernel_rfl));omega
  exact h k hk
 one:=λ x k=>by unfold xB;dsimp only;split <;> rfl
 bytes:=aaJ (by kernel_rfl)
def mX:Enc Dr:=⟨2,λ p k=>match k with|0=>vI p.a|_=>vI p.b,⟨0,0⟩⟩
noncomputable def P4:TypeInfo:=match Tryz.prog.info? 81 with | some i=>i | none=>⟨.bool,"",0,0,false,0,0,none,false,#[]⟩
noncomputable def P5:Value:=match P4.zero with|some z=>z|none=>.bool false
theorem Hu:EncOk mX Tryz.prog 81 P4 P5 where
 info:=by kernel_rfl
 zero:=by kernel_rfl
 size:=by kernel_rfl
 zsize:=by kernel_rfl
 zcell:=λ k hk=>by
  have h:∀k<2,P5.cells[k]?=some (mX.cell mX.dflt k):=by intro k hk;(iterate 2 (rcases k with _|k;· kernel_rfl));omega
  exact h k hk
 one:=λ x k=>by unfold mX;dsimp only;split <;> rfl
 bytes:=aaJ (by kernel_rfl)
structure MapIn(F:HL)(S:Setup)(rs:List Bx)(ds:List Dr):Prop where
 rooms:RowL xB 25 F S.rA S.rn rs
 doors:RowL mX 81 F S.dA S.dn ds
theorem MapIn.up{F X:HL}{S:Setup}{rs:List Bx}{ds:List Dr}(h:MapIn F S rs ds):MapIn (X++F) S rs ds:=⟨h.rooms.up,h.doors.up⟩
abbrev sJ:List Bx:=[⟨-12000,-9000,-1,9000⟩,⟨0,0,12000,9000⟩,⟨0,-9000,12000,-1⟩]
abbrev k9(i:Nat):List Dr:=match i with|0=>[]|1=>[⟨0,1⟩]|_=>[⟨0,2⟩,⟨1,2⟩]
def ClS{α:Type}(e:Enc α)(T:TypeId)(xs:List α)(A':Option Addr)(c':Nat)(Hl:HL):Prop:=∃A0,NewS e T xs A0 A' c' Hl
theorem ClS.rowL{α:Type}{e:Enc α}{T:TypeId}{xs:List α}{A':Option Addr}{c':Nat}{Hl:HL}(h:ClS e T xs A' c' Hl){F:HL}(hF:∀x∈Hl,x∈F):RowL e T F A' xs.length xs:=h.elim λ _ h=>h.rowL hF
theorem ClS.nil{α:Type}(e:Enc α)(T:TypeId)(A:Option Addr):ClS e T [] A 0 []:=⟨A,.inl ⟨rfl,rfl,rfl,rfl⟩⟩
def Ld(xs:List Int):Int:=1+kv xs 0 % 3
def qX(xs:List Int):Int:=Ld xs+kv xs 3 / 3 % 3
def bN(xs:List Int)(i:Nat):Int:=kv xs (4+2*i)
def bM(xs:List Int)(i:Nat):Int:=kv xs (5+2*i)
def tH(xs:List Int)(i:Nat)(A:Option Addr)(c:Nat):Bod:=⟨⟨(cR (bN xs i)).1,(cR (bN xs i)).2,A,c⟩,⟨((((bN xs i) / 1000) % 13)-6)*900,((((bM xs i) / 50) % 11)-5)*800,((((bM xs i) / 550) % 9)-4)*300,((((bN xs i) / 13000) % 9)-4)*300,([1024,1024,512,2048,0]:List Int).getD (((bM xs i) / 5000) % 5).toNat 0⟩,(bM xs i) % 50,(bN xs i) % 7⟩
def xC(a b c:Nat)(i:Nat):Option Addr:=match i with|0=>some ⟨a,0,none⟩|1=>some ⟨b,0,none⟩|_=>some ⟨c,0,none⟩
def jY(i:Nat):Nat:=match i with|0=>0|1=>1|_=>2
def Cd(a b c:Nat):Nat -> Nat -> Value:=λ i _=>.slice (xC a b c i) (jY i) (jY i)
theorem vt{F:HL}{A:Option Addr}{n:Nat}{xs:List Int}(h:ArgL F A n xs):1 <= Ld xs /\ Ld xs <= 3:=by
 have:=iu h 0;unfold Ld;omega
theorem qu{F:HL}{A:Option Addr}{n:Nat}{xs:List Int}(h:ArgL F A n xs):1 <= qX xs /\ qX xs <= 5 /\ Ld xs <= qX xs:=by
 have:=iu h 0;have:=iu h 3;unfold qX Ld;omega
theorem Hv{xs rest:List Int}{n i:Nat}(h:i<n):(ks xs n++rest).getD i 0=kv xs i:=by
 rw[aaI,aaU (by rw[mW];exact h),<- aaI,NX h]
theorem qY{α:Type}{l r:List α}{i:Nat}{d:α}(h:i<l.length):(l++r).getD i d=l.getD i d:=by
 rw[aaI,aaU h,<- aaI]
theorem tI{α:Type}{l:List α}{x d:α}:(l++[x]).getD l.length d=x:=by simp
theorem ShH.left{s:Shp}{T X:HL}(h:ShH s T):ShH s (T++X):=λ F hF=>h F λ x hx=>hF x (aaA _ hx)
theorem ShH.right{s:Shp}{T X:HL}(h:ShH s X):ShH s (T++X):=λ F hF=>h F λ x hx=>hF x (aay _ hx)
theorem Ao{F:HL}{a b c:Nat}(hb:(b,.rows 2 1 (aL mX (k9 1)) 81 (0,0))∈F)(hc:(c,.rows 2 2 (aL mX (k9 2)) 81 (0,0))∈F):∀i:Nat,RowL mX 81 F (xC a b c i) (jY i) (k9 i)
 | 0=>.zero _
 | 1=>RowL.whole (xs:=k9 1) hb (aaK _)
 | _+2=>RowL.whole (xs:=k9 2) hc (aaK _)
structure SetG(xs:List Int)(S:Setup)(T:HL):Prop where
 pl:S.players=Ld xs
 nb:(S.nb:Int)=qX xs
 bo:S.bo=0
 cap:S.nb <= S.bc
 room:S.bo+S.nb <= S.bR
 nums:S.box=⟨-12000,-9000,12000,9000⟩ /\ S.fog=4000+(kv xs 1 % 9)*1000 /\ S.g=⟨0,(-((kv xs 2 / 36) % 3))*40⟩ /\ S.push=((kv xs 1 / 9) % 5)*100 /\ S.drag=(kv xs 2 % 4)*100 /\ S.rest=((kv xs 2 / 4) % 3)*512 /\ S.rounds=1+(kv xs 2 / 12) % 3 /\ S.fuel=60
 bod:∀j,j<S.nb -> ∃A c,S.body j=tH xs j A c
 sin:∀F,(S.bb,.rows 9 S.bR (je S.bods) 90 (0,0))∈F -> (∀x∈T,x∈F) -> SetIn F S
 maps:(S.rn=3 /\ S.dn=jY (kv xs 3 % 3).toNat) /\ ∀F,(∀x∈T,x∈F) -> MapIn F S sJ (k9 (kv xs 3 % 3).toNat)
theorem Eu(A:Option Addr)(n cap:Nat)(xs:List Int)(F:HL)(hl:ArgL F A n xs)(hn:n <= 9223372036854775807):Sp Tryz.prog 10 #[.slice A n cap] (ap [] []) F (λ u H'=>∃x:Setup × HL,H'=ap [(x.1.bb,.rows 9 x.1.bR (je x.1.bods) 90 (0,0))] [x.2] /\ (u=Setup.v x.1 /\ SetG xs x.1 x.2)):=by
 refine aau Tryz.func10 rfl mn (A:=[]) (Ts:=[]) rfl λ w0=>?_;refine ae 17 [] λ n1=>aap<|aao (σ:=Nat × Option Addr × Nat × HL) (λ ⟨i,A_,c_,T_⟩=>⟨[(0,.slice A n cap),(2,vP (n1+0) 0),(3,.slice A_ i c_),(4,vI (i:Int))],[((n1+0),.lit [vI 0,.slice none 0 0,vI 0,vI 0,vI 0,vI 0,.slice none 0 0,.slice none 0 0,vI 0,vI 0,vI 0,vI 0,vI 0,vI 0,vI 0,vI 0] 31 (0,0))],[T_],i <= 24 /\ SlIs Am 3 (ks xs i) A_ c_ T_ /\ bA A_,24-i⟩) (0,none,0,[]) [0] [0] (⟨aaL _,aat _ _,trivial⟩) ?_;rintro⟨i,A_,c_,T_⟩ ⟨XA,Sr,VQ⟩ Sm;refine ae 7 [] λ _=>aam ((i:Int)<24) 12 (λ h4=>?_) λ h4=>?_
 ·refine ae 19 [] λ _=>aam ((i:Int)<(n:Int)) 18 (λ h5=>?_) λ h5=>?_
  ·refine ae 4 [] λ _=>?_;obtain⟨qx6,VC,Nx6,gx6,aeo,adt,Xm,WE,ab6,WL,Zs⟩:=hl.at (k:=i) (by omega);refine aK 19 (congrArg (λ v_=>(.slice v_ n cap:Value)) Xm)<|RN.ro (λ _=>(mc WE mn))<|ai 2 [.ix i,.rorow 0 (VC+i) 0] [(VC+i*1)=(VC+i)*1+0 /\ (VC+i)<Nx6,(i:Int)=((i:Nat):Int) /\ i<n] λ _=>aK 22 (congrArg (λ v_=>(v_:Value)) WL)<|aai (i8 (xs.getD i 0) 1000000 (by decide) _) ?_;have hA7:=dg (n:=xs.getD i 0) Zs 1000000 (by decide);refine ae 7 [] λ n8=>iX Hs (ks xs i) [ay (xs.getD i 0) 1000000] 0 0 (mW xs i).symm Sr (by rw[mW];show i+1 <= 100000000;omega) ?_;rintro A9 Xr OF ⟨ae5,aeO⟩;refine ai 9 [.nw] [bn ((i:Int)+1)] λ _=>?_;have Wy:=aeO VQ;refine Sm (i+1,A9,Xr,OF) [1] [0] ?_
   try dsimp only
   refine⟨⟨by omega,?_,Wy⟩,by omega⟩;rw[Cc,show kv xs i=_ from by unfold kv;rw[if_pos (by rw[hl.len];omega)]];exact ae5
  ·refine ae 7 [] λ n14=>iX Hs (ks xs i) [0] 0 0 (mW xs i).symm Sr (by rw[mW];show i+1 <= 100000000;omega) ?_;rintro A15 c16 TA ⟨Zr,abB⟩;refine ai 9 [.nw] [bn ((i:Int)+1)] λ _=>?_;have Wy:=abB VQ;refine Sm (i+1,A15,c16,TA) [1] [0] ?_
   try dsimp only
   refine⟨⟨by omega,?_,Wy⟩,by omega⟩;rw[Cc,show kv xs i=_ from by unfold kv;rw[if_neg (by rw[hl.len];omega)]];exact Zr
 ·refine ae 7 [] λ _=>?_;have ei:i=24:=by omega
  subst ei;obtain⟨kb,rest,rfl,rfl,SX⟩:=Sr.open0 VQ (by decide) (by rw[mW];decide);have hcap:24 <= c_:=by rw[mW] at SX;exact SX
  refine tc 0 (x:=(kb,.rows 1 c_ (aL Am (ks xs 24++rest)) 3 (0,0))) ?_;have hk0:=iu hl 0;have SV:=iu hl 1;have U6:=iu hl 2;have hk3:=iu hl 3;have hse:qX xs=1+kv xs 0 % 3+kv xs 3 / 3 % 3:=rfl;have hsc:=qu hl;have VE:=vt hl;refine aal [37] []<|aA [] [0,5,6,12,18,23,29,1,7,13,19,24,30,2,8,14,20,25,31,3,9,15,21,26,32,4,10,16,22,27,33,11,17,28,34,35] [.row 0 0 0,.row 0 1 0,.row 0 1 0,.row 0 2 0,.row 0 2 0,.row 0 2 0,.nw,.nw,.nw,.nw,.nw,.nw,.nw,.nw,.nw,.nw,.nw,.nw,.nw,.nw,.nw,.nw] [bn (1+(((kv xs 2) / 12) % 3)),bn ((((kv xs 2) / 4) % 3)*512),bn ((((kv xs 1) / 9) % 5)*100),bn (4000+(((kv xs 1) % 9)*1000)),0 <= (kv xs 2) / 12 /\ (0:Int)<3 /\ (kv xs 2) / 12 <= 9223372036854775807,0 <= (kv xs 2) / 4 /\ (0:Int)<3 /\ (kv xs 2) / 4 <= 9223372036854775807,bn (((kv xs 2) % 4)*100),0 <= (kv xs 1) / 9 /\ (0:Int)<5 /\ (kv xs 1) / 9 <= 9223372036854775807,bn (((kv xs 1) % 9)*1000),bn (1+((kv xs 0) % 3)),0 <= kv xs 2 /\ (0:Int)<12 /\ kv xs 2 <= 9223372036854775807,0 <= kv xs 2 /\ (0:Int)<4 /\ kv xs 2 <= 9223372036854775807,0 <= kv xs 2 /\ (0:Int)<4 /\ kv xs 2 <= 9223372036854775807,0 <= kv xs 1 /\ (0:Int)<9 /\ kv xs 1 <= 9223372036854775807,0 <= kv xs 1 /\ (0:Int)<9 /\ kv xs 1 <= 9223372036854775807,0 <= kv xs 0 /\ (0:Int)<3 /\ kv xs 0 <= 9223372036854775807,2=2*1+0 /\ 2<c_,2=2*1+0 /\ 2<c_,2=2*1+0 /\ 2<c_,1=1*1+0 /\ 1<c_,1=1*1+0 /\ 1<c_,0=0*1+0 /\ 0<c_]<|aae 36 (aag [] [] λ VP=>?_);refine aae 37 (aag [] (ow 0 16) λ _=>?_);refine aad<|ai 38 [.row 1 2 0,.nw,.nw,.nw,.nw,.own 0,.own 0,.own 1,.row 6 3 0,.nw] [0 <= kv xs 3 /\ (0:Int)<3 /\ kv xs 3 <= 9223372036854775807,3=3*1+0 /\ 3<c_,bn ((-(((kv xs 2) / 36) % 3))*40),-9223372036854775807 <= ((kv xs 2) / 36) % 3 /\ ((kv xs 2) / 36) % 3 <= 9223372036854775808,0 <= (kv xs 2) / 36 /\ (0:Int)<3 /\ (kv xs 2) / 36 <= 9223372036854775807,0 <= kv xs 2 /\ (0:Int)<36 /\ kv xs 2 <= 9223372036854775807,2=2*1+0 /\ 2<c_] λ Of=>aak 0 (.rows 1 3 (Cd (Of+1) (Of+2) (Of+3)) 27 (0,0))<|ai 13 [.ix (((kv xs 3) % 3).toNat),.row 0 (((kv xs 3) % 3).toNat) 0,.own 5] [(0+(((kv xs 3) % 3).toNat)*1)=(((kv xs 3) % 3).toNat)*1+0 /\ (((kv xs 3) % 3).toNat)<3,(kv xs 3) % 3=((((kv xs 3) % 3).toNat:Nat):Int) /\ ((kv xs 3) % 3).toNat<3] λ _=>aap<|aap<|aao (σ:=Nat × List Bod × Option Addr × Nat × HL × HL) (λ ⟨j,bods,B_,d_,V_,U_⟩=>⟨[(2,vP (n1+0) 0),(3,vS kb 0 24 c_),(6,vP (VP+0) 0),(7,vI (j:Int))],[((Of+4),.rows 1 3 (Cd (Of+1) (Of+2) (Of+3)) 27 (0,0)),((Of+3),.lit [vI 0,vI 2,vI 1,vI 2] 81 (0,0)),((Of+2),.lit [vI 0,vI 1] 81 (0,0)),((Of+1),.lit [] 81 (0,0)),((Of+0),.lit [vI (-12000),vI (-9000),vI (-1),vI 9000,vI 0,vI 0,vI 12000,vI 9000,vI 0,vI (-9000),vI 12000,vI (-1)] 25 (0,0)),((VP+0),.lit [vI (1+((kv xs 0) % 3)),.slice B_ j d_,vI (-12000),vI (-9000),vI 12000,vI 9000,vS (Of+0) 0 3 3,.slice (xC (Of+1) (Of+2) (Of+3) (((kv xs 3) % 3).toNat)) (jY (((kv xs 3) % 3).toNat)) (jY (((kv xs 3) % 3).toNat)),vI (4000+(((kv xs 1) % 9)*1000)),vI 0,vI ((-(((kv xs 2) / 36) % 3))*40),vI ((((kv xs 1) / 9) % 5)*100),vI (((kv xs 2) % 4)*100),vI ((((kv xs 2) / 4) % 3)*512),vI (1+(((kv xs 2) / 12) % 3)),vI 60] 31 (0,0)),(kb,.rows 1 c_ (aL Am (ks xs 24++rest)) 3 (0,0)),((n1+0),.lit [vI 0,.slice none 0 0,vI 0,vI 0,vI 0,vI 0,.slice none 0 0,.slice none 0 0,vI 0,vI 0,vI 0,vI 0,vI 0,vI 0,vI 0,vI 0] 31 (0,0))],[V_,U_],(j:Int) <= qX xs /\ bods.length=j /\ (∀t,t<j -> ∃A c,bods.getD t dB=tH xs t A c) /\ (∀t,t<j -> ShH (bods.getD t dB).sh U_) /\ SlIs kZ 90 bods B_ d_ V_ /\ bA B_,(qX xs).toNat-j⟩) (0,[],none,0,[],[]) [0,1,2,3,4,5,6,7] [0,1] (⟨by show (0:Int) <= _;omega,rfl,λ t ht=>absurd ht (Nat.not_lt_zero _),λ t ht=>absurd ht (Nat.not_lt_zero _),aat _ _,trivial⟩) ?_;rintro⟨j,bods,B_,d_,V_,U_⟩ ⟨hj_,SD,Wd,UN,XP,abA⟩ aeB;refine ae 2 [] λ _=>aal [] []<|aA [] [0,1,3,2,4,5,6,7,8,9] [.own 5,.row 6 3 0,.nw,.nw,.nw] [bn ((1+((kv xs 0) % 3))+(((kv xs 3) / 3) % 3)),0 <= (kv xs 3) / 3 /\ (0:Int)<3 /\ (kv xs 3) / 3 <= 9223372036854775807,0 <= kv xs 3 /\ (0:Int)<3 /\ kv xs 3 <= 9223372036854775807,3=3*1+0 /\ 3<c_]<|aad<|ae 1 [] λ _=>aam ((j:Int)<(1+((kv xs 0) % 3))+(((kv xs 3) / 3) % 3)) 101 (λ h24=>?_) λ h24=>?_
  ·refine ai 13 [.nw,.nw,.ix ((4+(2*(j:Int))).toNat),.row 6 ((4+(2*(j:Int))).toNat) 0] [(0+((4+(2*(j:Int))).toNat)*1)=((4+(2*(j:Int))).toNat)*1+0 /\ ((4+(2*(j:Int))).toNat)<c_,4+(2*(j:Int))=(((4+(2*(j:Int))).toNat:Nat):Int) /\ (4+(2*(j:Int))).toNat<24,bn (4+(2*(j:Int))),bn (2*(j:Int))] λ _=>aK 109 (congrArg (λ v_=>(vI v_:Value)) (Hv (xs:=xs) (rest:=rest) (n:=24) (i:=4+2*j) (by omega))) ?_;have hbN:=iu hl (4+2*j);rw[show kv xs (4+2*j)=bN xs j from rfl] at hbN;refine ai 11 [.nw,.nw,.ix ((5+(2*(j:Int))).toNat),.row 6 ((5+(2*(j:Int))).toNat) 0] [(0+((5+(2*(j:Int))).toNat)*1)=((5+(2*(j:Int))).toNat)*1+0 /\ ((5+(2*(j:Int))).toNat)<c_,5+(2*(j:Int))=(((5+(2*(j:Int))).toNat:Nat):Int) /\ (5+(2*(j:Int))).toNat<24,bn (5+(2*(j:Int))),bn (2*(j:Int))] λ _=>aK 115 (congrArg (λ v_=>(vI v_:Value)) (Hv (xs:=xs) (rest:=rest) (n:=24) (i:=5+2*j) (by omega))) ?_;have hbM:=iu hl (5+2*j);rw[show kv xs (5+2*j)=bM xs j from rfl] at hbM;refine ae 6 [] λ _=>aaj (Hp:=[]) (Tp:=[]) [] [] (xA (bN xs j) _) ?_;rintro _ ⟨A25,c26,VM⟩ ⟨rfl,Yy⟩;dsimp only at Yy;refine ai 37 ([.nw,.nw]++ow 0 9++[.nw,.nw,.nw,.nw,.nw,.nw,.nw,.nw,.nw,.nw,.nw,.nw,.nw,.nw,.nw,.nw,.nw,.nw]) [0 <= (bM xs j) / 5000 /\ (0:Int)<5 /\ (bM xs j) / 5000 <= 9223372036854775807,0 <= bM xs j /\ (0:Int)<5000 /\ bM xs j <= 9223372036854775807,bn (((((bN xs j) / 13000) % 9)-4)*300),bn ((((bN xs j) / 13000) % 9)-4),0 <= (bN xs j) / 13000 /\ (0:Int)<9 /\ (bN xs j) / 13000 <= 9223372036854775807,0 <= bN xs j /\ (0:Int)<13000 /\ bN xs j <= 9223372036854775807,bn (((((bM xs j) / 550) % 9)-4)*300),bn ((((bM xs j) / 550) % 9)-4),0 <= (bM xs j) / 550 /\ (0:Int)<9 /\ (bM xs j) / 550 <= 9223372036854775807,0 <= bM xs j /\ (0:Int)<550 /\ bM xs j <= 9223372036854775807,bn (((((bM xs j) / 50) % 11)-5)*800),bn ((((bM xs j) / 50) % 11)-5),0 <= (bM xs j) / 50 /\ (0:Int)<11 /\ (bM xs j) / 50 <= 9223372036854775807,0 <= bM xs j /\ (0:Int)<50 /\ bM xs j <= 9223372036854775807,bn (((((bN xs j) / 1000) % 13)-6)*900),bn ((((bN xs j) / 1000) % 13)-6),0 <= (bN xs j) / 1000 /\ (0:Int)<13 /\ (bN xs j) / 1000 <= 9223372036854775807,0 <= bN xs j /\ (0:Int)<1000 /\ bN xs j <= 9223372036854775807,0 <= bN xs j /\ (0:Int)<7 /\ bN xs j <= 9223372036854775807,0 <= bM xs j /\ (0:Int)<50 /\ bM xs j <= 9223372036854775807] λ n29=>aak 0 (.rows 1 5 (aE [1024,1024,512,2048,0]) 3 (0,0))<|ai 12 ([.ix ((((bM xs j) / 5000) % 5).toNat),.row 0 ((((bM xs j) / 5000) % 5).toNat) 0]++ow 1 5++[.own 7]++ow 1 9) [(0+((((bM xs j) / 5000) % 5).toNat)*1)=((((bM xs j) / 5000) % 5).toNat)*1+0 /\ ((((bM xs j) / 5000) % 5).toNat)<5,((bM xs j) / 5000) % 5=(((((bM xs j) / 5000) % 5).toNat:Nat):Int) /\ (((bM xs j) / 5000) % 5).toNat<5] λ n30=>iX uW bods [tH xs j A25 c26] 1 0 SD.symm XP (by rw[SD];show j+1 <= 100000000;omega) ?_;rintro A31 c32 T33 ⟨ae0,aeL⟩;refine ai 10 [.own 8,.nw] [bn ((j:Int)+1)] λ _=>?_;have Wy:=aeL abA;refine ll [2,1,0]<|my ?_;refine aeB (j+1,bods++[(tH xs j A25 c26)],A31,c32,T33,U_++VM) [3,4,5,6,7,8,9,10] [1,0] ?_
   try dsimp only
   refine⟨⟨by omega,by rw[aaP,SD];rfl,?_,?_,ae0,Wy⟩,by omega⟩
   ·intro t ht;rcases aaZ t j with h|h
    ·rw[qY (by omega)];exact Wd t h
    ·have:t=bods.length:=by omega
     subst this;rw[tI,SD];exact⟨_,_,rfl⟩
   ·intro t ht;rcases aaZ t j with h|h
    ·rw[qY (by omega)];exact(UN t h).left
    ·have:t=bods.length:=by omega
     subst this;rw[tI];exact ShH.right Yy
  ·refine ae 7 [] λ _=>?_;have ej:(j:Int)=qX xs:=by unfold qX Ld;unfold qX Ld at hj_;omega
   obtain⟨bb,Ua,rfl,rfl,Tm⟩:=XP.open0 abA (by decide) (by rw[SD];omega);refine tc 0 (x:=(bb,.rows 9 d_ (aL kZ (bods++Ua)) 90 (0,0)))<|ae 5 (ow 6 16++ow 8 16) λ _=>aak 5 (.rows 4 3 (aL xB sJ) 25 (0,0))<|aak 3 (.rows 2 1 (aL mX (k9 1)) 81 (0,0))<|aak 2 (.rows 2 2 (aL mX (k9 2)) 81 (0,0))<|aaq (ow 8 16) [0,5,3,2] [0] (v:=.agg #[vI (1+((kv xs 0) % 3)),vS bb 0 j d_,vI (-12000),vI (-9000),vI 12000,vI 9000,vS (Of+0) 0 3 3,.slice (xC (Of+1) (Of+2) (Of+3) (((kv xs 3) % 3).toNat)) (jY (((kv xs 3) % 3).toNat)) (jY (((kv xs 3) % 3).toNat)),vI (4000+(((kv xs 1) % 9)*1000)),vI 0,vI ((-(((kv xs 2) / 36) % 3))*40),vI ((((kv xs 1) / 9) % 5)*100),vI (((kv xs 2) % 4)*100),vI ((((kv xs 2) / 4) % 3)*512),vI (1+(((kv xs 2) / 12) % 3)),vI 60]) (H':=(ap [(bb,.rows 9 d_ (aL kZ (bods++Ua)) 90 (0,0)),((Of+0),.rows 4 3 (aL xB sJ) 25 (0,0)),((Of+2),.rows 2 1 (aL mX (k9 1)) 81 (0,0)),((Of+3),.rows 2 2 (aL mX (k9 2)) 81 (0,0))] [U_])) ?_;have UY:∀k,k<j -> (bods++Ua).getD (0+k) dB=bods.getD k dB:=λ k hk=>by rw[Nat.zero_add,qY (by omega)]
   refine⟨((⟨1+((kv xs 0) % 3),bb,0,j,d_,d_,bods++Ua,⟨-12000,-9000,12000,9000⟩,some ⟨(Of+0),0,none⟩,3,3,xC (Of+1) (Of+2) (Of+3) (kv xs 3 % 3).toNat,jY (kv xs 3 % 3).toNat,jY (kv xs 3 % 3).toNat,4000+(((kv xs 1) % 9)*1000),⟨0,(-(((kv xs 2) / 36) % 3))*40⟩,(((kv xs 1) / 9) % 5)*100,((kv xs 2) % 4)*100,(((kv xs 2) / 4) % 3)*512,1+(((kv xs 2) / 12) % 3),60⟩:Setup),[((Of+0),.rows 4 3 (aL xB sJ) 25 (0,0)),((Of+2),.rows 2 1 (aL mX (k9 1)) 81 (0,0)),((Of+3),.rows 2 2 (aL mX (k9 2)) 81 (0,0))]++U_),(by simp[ap]),rfl,?_⟩;refine⟨rfl,ej,rfl,(by rw[SD] at Tm;exact Tm),(by rw[SD] at Tm;show 0+j <= d_;omega),⟨rfl,rfl,rfl,rfl,rfl,rfl,rfl,rfl⟩,λ k hk=>?_,λ F hbF hF=>⟨⟨by show (0:Int) <= 1+kv xs 0 % 3 /\ 1+kv xs 0 % 3 <= 1000000;omega,by show j <= 1000000;omega⟩,hbF,by show 0+j <= d_;rw[SD] at Tm;omega,λ k hk=>?_⟩,⟨⟨rfl,rfl⟩,λ F hF=>⟨RowL.whole (xs:=sJ) (hF _ (aaA _ (aaB))) (aaK _),Ao (hF _ (aaA _ (aaE _ (aaB)))) (hF _ (aaA _ (aaE _ (aaE _ (aaB))))) _⟩⟩⟩
   ·obtain⟨A,c,h⟩:=Wd k hk;exact⟨A,c,by show (bods++Ua).getD (0+k) dB=_;rw[UY k hk];exact h⟩
   ·show ShIn F ((bods++Ua).getD (0+k) dB).sh;rw[UY k hk];exact UN k hk F λ x hx=>hF x (by simp[hx])
def rowN(pl:Int)(xs:List Int)(t:Int)(q:Nat):Int:=if xs.length>0 then ay (xs.getD ((t*pl+(q:Int)) % (xs.length:Int)).toNat 0) 1000000 else 0
def xD(n:Int):Inp:=⟨n % 3-1,n / 3 % 3-1,if n / 9 % 3=0 then n / 27 % 4 else 0⟩
def vu(pl:Int)(xs:List Int)(t:Int)(q:Nat):Inp:=xD (rowN pl xs t q)
def rowL(pl:Int)(xs:List Int)(t:Int)(n:Nat):List Inp:=(List.range n).map (vu pl xs t)
theorem fE(pl:Int)(xs:List Int)(t:Int)(n:Nat):(rowL pl xs t n).length=n:=by simp[rowL]
theorem oW(pl:Int)(xs:List Int)(t:Int)(n:Nat):rowL pl xs t (n+1)=rowL pl xs t n++[vu pl xs t n]:=by simp[rowL,List.range_succ]
theorem Hw{pl:Int}{xs:List Int}{t:Int}{n i:Nat}(h:i<n):(rowL pl xs t n).getD i dI=vu pl xs t i:=by simp[rowL,h]
theorem Lf{F:HL}{A:Option Addr}{n:Nat}{xs:List Int}(h:ArgL F A n xs)(pl t:Int)(q:Nat):0 <= rowN pl xs t q /\ rowN pl xs t q<1000000:=by
 unfold rowN;split
 ·next hi =>
  rw[h.len] at hi;have h1:=Int.emod_nonneg (t*pl+(q:Int)) (show (n:Int)≠0 by omega);have h2:=Int.emod_lt_of_pos (t*pl+(q:Int)) (show (0:Int)<n by omega);rw[h.len];obtain⟨_,_,_,_,_,_,_,_,_,_,hr⟩:=h.at (k:=((t*pl+(q:Int)) % (n:Int)).toNat) (by omega);exact dg hr 1000000 (by decide)
 ·omega
theorem Lg(S:Setup)(A:Option Addr)(n cap:Nat)(xs:List Int)(t:Int)(F:HL)(hl:ArgL F A n xs)(hn:n <= 9223372036854775807)(hp:0 <= S.players /\ S.players <= 1000000)(ht:0 <= t /\ t <= 1000000):Sp Tryz.prog 30 #[Setup.v S,.slice A n cap,vI t] (ap [] []) F (λ u H'=>∃x:Option Addr × Nat × HL,H'=ap [] [x.2.2] /\ (u=.slice x.1 S.players.toNat x.2.1 /\ SlIs cL 40 (rowL S.players xs t S.players.toNat) x.1 x.2.1 x.2.2 /\ bA x.1)):=by
 have hm:0 <= t*S.players /\ t*S.players <= 1000000000000:=⟨Int.mul_nonneg ht.1 hp.1,Int.le_trans (Int.mul_le_mul ht.2 hp.2 hp.1 (by decide)) (by decide)⟩;refine aau Tryz.func30 rfl mn (A:=[]) (Ts:=[]) rfl λ w0=>?_;refine ae 18 [] λ n1=>aap<|aao (σ:=Nat × Option Addr × Nat × HL) (λ ⟨q,A_,c_,T_⟩=>⟨[(1,.slice A n cap),(2,vI t),(3,vP (n1+0) 0),(7,.slice A_ q c_),(8,vI (q:Int))],[((n1+0),.lit (Setup.l S) 31 (0,0))],[T_],(q:Int) <= S.players /\ SlIs cL 40 (rowL S.players xs t q) A_ c_ T_ /\ bA A_,S.players.toNat-q⟩) (0,none,0,[]) [0] [0] (⟨by show (0:Int) <= _;omega,aat _ _,trivial⟩) ?_;rintro⟨q,A_,c_,T_⟩ ⟨XA,Sr,VQ⟩ Sm;refine ae 9 [.own 0] λ _=>aam ((q:Int)<S.players) 14 (λ h4=>?_) λ h4=>?_
 ·refine ae 18 [] λ _=>aam ((n:Int)>0) 19 (λ h5=>?_) λ h5=>?_
  ·refine ai 12 [.own 0,.nw,.nw,.nw] [0 <= (t*S.players)+(q:Int) /\ (0:Int)<(n:Int) /\ (t*S.players)+(q:Int) <= 9223372036854775807,bn ((t*S.players)+(q:Int)),bn (t*S.players)] λ _=>?_;have ak1:=Int.emod_nonneg (t*S.players+(q:Int)) (show (n:Int)≠0 by omega);have ak0:=Int.emod_lt_of_pos (t*S.players+(q:Int)) (show (0:Int)<n by omega);obtain⟨qx6,VC,Nx6,gx6,aeo,adt,Xm,WE,ab6,WL,Zs⟩:=hl.at (k:=((t*S.players+(q:Int)) % (n:Int)).toNat) (by omega);refine aK 20 (congrArg (λ v_=>(.slice v_ n cap:Value)) Xm)<|RN.ro (λ _=>(mc WE mn))<|ai 2 [.ix ((((t*S.players)+(q:Int)) % (n:Int)).toNat),.rorow 0 (VC+((((t*S.players)+(q:Int)) % (n:Int)).toNat)) 0] [(VC+((((t*S.players)+(q:Int)) % (n:Int)).toNat)*1)=(VC+((((t*S.players)+(q:Int)) % (n:Int)).toNat))*1+0 /\ (VC+((((t*S.players)+(q:Int)) % (n:Int)).toNat))<Nx6,((t*S.players)+(q:Int)) % (n:Int)=(((((t*S.players)+(q:Int)) % (n:Int)).toNat:Nat):Int) /\ (((t*S.players)+(q:Int)) % (n:Int)).toNat<n] λ _=>aK 31 (congrArg (λ v_=>(v_:Value)) WL)<|aai (i8 (xs.getD (((t*S.players+(q:Int)) % (n:Int)).toNat) 0) 1000000 (by decide) _) ?_;have hA7:=dg (n:=xs.getD (((t*S.players+(q:Int)) % (n:Int)).toNat) 0) Zs 1000000 (by decide);refine ae 4 [] λ _=>ai 22 [.nw,.nw,.nw,.nw,.nw,.own 0,.own 0,.own 0,.nw,.nw] [0 <= (ay (xs.getD (((t*S.players+(q:Int)) % (n:Int)).toNat) 0) 1000000) / 9 /\ (0:Int)<3 /\ (ay (xs.getD (((t*S.players+(q:Int)) % (n:Int)).toNat) 0) 1000000) / 9 <= 9223372036854775807,0 <= ay (xs.getD (((t*S.players+(q:Int)) % (n:Int)).toNat) 0) 1000000 /\ (0:Int)<9 /\ ay (xs.getD (((t*S.players+(q:Int)) % (n:Int)).toNat) 0) 1000000 <= 9223372036854775807,bn ((((ay (xs.getD (((t*S.players+(q:Int)) % (n:Int)).toNat) 0) 1000000) / 3) % 3)-1),0 <= (ay (xs.getD (((t*S.players+(q:Int)) % (n:Int)).toNat) 0) 1000000) / 3 /\ (0:Int)<3 /\ (ay (xs.getD (((t*S.players+(q:Int)) % (n:Int)).toNat) 0) 1000000) / 3 <= 9223372036854775807,0 <= ay (xs.getD (((t*S.players+(q:Int)) % (n:Int)).toNat) 0) 1000000 /\ (0:Int)<3 /\ ay (xs.getD (((t*S.players+(q:Int)) % (n:Int)).toNat) 0) 1000000 <= 9223372036854775807,bn (((ay (xs.getD (((t*S.players+(q:Int)) % (n:Int)).toNat) 0) 1000000) % 3)-1),0 <= ay (xs.getD (((t*S.players+(q:Int)) % (n:Int)).toNat) 0) 1000000 /\ (0:Int)<3 /\ ay (xs.getD (((t*S.players+(q:Int)) % (n:Int)).toNat) 0) 1000000 <= 9223372036854775807] λ n8=>aam (((ay (xs.getD (((t*S.players+(q:Int)) % (n:Int)).toNat) 0) 1000000) / 9) % 3=0) 44 (λ h9=>?_) λ h9=>?_
   ·refine ai 13 [.nw,.nw,.own 0,.own 0,.own 0,.own 0] [0 <= (ay (xs.getD (((t*S.players+(q:Int)) % (n:Int)).toNat) 0) 1000000) / 27 /\ (0:Int)<4 /\ (ay (xs.getD (((t*S.players+(q:Int)) % (n:Int)).toNat) 0) 1000000) / 27 <= 9223372036854775807,0 <= ay (xs.getD (((t*S.players+(q:Int)) % (n:Int)).toNat) 0) 1000000 /\ (0:Int)<27 /\ ay (xs.getD (((t*S.players+(q:Int)) % (n:Int)).toNat) 0) 1000000 <= 9223372036854775807] λ TG=>?_;have TN:vu S.players xs t q=(⟨((ay (xs.getD (((t*S.players+(q:Int)) % (n:Int)).toNat) 0) 1000000) % 3)-1,(((ay (xs.getD (((t*S.players+(q:Int)) % (n:Int)).toNat) 0) 1000000) / 3) % 3)-1,((ay (xs.getD (((t*S.players+(q:Int)) % (n:Int)).toNat) 0) 1000000) / 27) % 4⟩:Inp):=by
     unfold vu;rw[show rowN S.players xs t q=ay (xs.getD (((t*S.players+(q:Int)) % (n:Int)).toNat) 0) 1000000 from by unfold rowN;rw[hl.len];rw[if_pos (by omega)]]
     first|rfl|(unfold xD;simp only[if_pos h9])
    refine iX oL (rowL S.players xs t q) [(⟨((ay (xs.getD (((t*S.players+(q:Int)) % (n:Int)).toNat) 0) 1000000) % 3)-1,(((ay (xs.getD (((t*S.players+(q:Int)) % (n:Int)).toNat) 0) 1000000) / 3) % 3)-1,((ay (xs.getD (((t*S.players+(q:Int)) % (n:Int)).toNat) 0) 1000000) / 27) % 4⟩:Inp)] 0 0 (fE _ _ _ _).symm Sr (by rw[fE];show q+1 <= 100000000;omega) ?_;rintro A11 c12 TF ⟨Um,Zf⟩;refine ai 9 [.nw] [bn ((q:Int)+1)] λ _=>?_;have Wy:=Zf VQ;refine Sm (q+1,A11,c12,TF) [2] [0] ?_
    try dsimp only
    refine⟨⟨by omega,?_,Wy⟩,by omega⟩;rw[oW,TN];exact Um
   ·refine ae 7 (aab 3) λ n16=>?_;have TN:vu S.players xs t q=(⟨((ay (xs.getD (((t*S.players+(q:Int)) % (n:Int)).toNat) 0) 1000000) % 3)-1,(((ay (xs.getD (((t*S.players+(q:Int)) % (n:Int)).toNat) 0) 1000000) / 3) % 3)-1,0⟩:Inp):=by
     unfold vu;rw[show rowN S.players xs t q=ay (xs.getD (((t*S.players+(q:Int)) % (n:Int)).toNat) 0) 1000000 from by unfold rowN;rw[hl.len];rw[if_pos (by omega)]]
     first|rfl|(unfold xD;simp only[if_neg h9])
    refine iX oL (rowL S.players xs t q) [(⟨((ay (xs.getD (((t*S.players+(q:Int)) % (n:Int)).toNat) 0) 1000000) % 3)-1,(((ay (xs.getD (((t*S.players+(q:Int)) % (n:Int)).toNat) 0) 1000000) / 3) % 3)-1,0⟩:Inp)] 0 0 (fE _ _ _ _).symm Sr (by rw[fE];show q+1 <= 100000000;omega) ?_;rintro A17 c18 VB ⟨ae3,aeN⟩;refine ai 9 [.nw] [bn ((q:Int)+1)] λ _=>?_;have Wy:=aeN VQ;refine Sm (q+1,A17,c18,VB) [2] [0] ?_
    try dsimp only
    refine⟨⟨by omega,?_,Wy⟩,by omega⟩;rw[oW,TN];exact ae3
  ·refine ae 4 [] λ _=>ae 35 (ow 0 7) λ n22=>?_;have TN:vu S.players xs t q=(⟨(-1),(-1),0⟩:Inp):=by
    unfold vu;rw[show rowN S.players xs t q=0 from by unfold rowN;rw[hl.len];rw[if_neg (by omega)]];rfl
   refine iX oL (rowL S.players xs t q) [(⟨(-1),(-1),0⟩:Inp)] 0 0 (fE _ _ _ _).symm Sr (by rw[fE];show q+1 <= 100000000;omega) ?_;rintro A23 c24 Y0 ⟨ae1,aeM⟩;refine ai 9 [.nw] [bn ((q:Int)+1)] λ _=>?_;have Wy:=aeM VQ;refine Sm (q+1,A23,c24,Y0) [2] [0] ?_
   try dsimp only
   refine⟨⟨by omega,?_,Wy⟩,by omega⟩;rw[oW,TN];exact ae1
 ·refine ae 12 [] λ _=>aaq [] [] [0] (v:=.slice A_ q c_) (H':=(ap [] [T_])) ?_;have ei:q=S.players.toNat:=by omega
  subst ei;exact⟨(A_,c_,T_),rfl,rfl,Sr,VQ⟩
theorem pY(a:Addr)(n c:Nat)(xs:List Bod)(F:HL)(hl:SrcIn Tryz.prog kZ F (some a) n xs)(hb:n <= 100000000):Sp Tryz.prog 113 #[.slice (some a) n c] [] F (λ u H'=>∃x:Option Addr × Nat × HL,H'=ap [] [x.2.2] /\ (u=.slice x.1 n x.2.1 /\ ClS kZ 90 xs x.1 x.2.1 x.2.2)):=by
 refine aau Tryz.func113 rfl mn (A:=[]) (Ts:=[]) rfl λ w0=>?_;refine ae 19 [] λ n1=>aap<|jo (A:=(some ⟨(n1+0),0,none⟩)) (B:=(some a)) (c':=c) uW xs 0 (λ a_ e_=>by cases e_;rfl) (m:=n) (tx:=23) hl.1.1.symm (by rw[hl.1.1];exact hb) (λ e_ he X w hR=>hl.2 c he X w hR) ?_;rintro A2 c3 T4 TH;refine ae 3 [] λ _=>aaq [] [] [0] (v:=.slice A2 xs.length c3) (H':=(ap [] [T4])) ?_;exact⟨(A2,c3,T4),rfl,by rw[hl.1.1],_,TH⟩
theorem pZ(c:Nat)(F:HL):Sp Tryz.prog 113 #[.slice none 0 c] [] F (λ u H'=>∃x:Option Addr × Nat × HL,H'=ap [] [x.2.2] /\ (u=.slice x.1 0 x.2.1 /\ ClS kZ 90 [] x.1 x.2.1 x.2.2)):=by
 refine aau Tryz.func113 rfl mn (A:=[]) (Ts:=[]) rfl λ w0=>?_;refine ae 18 [] λ _=>aaq [] [] [] (v:=.slice none 0 0) (H':=(ap [] [])) ?_;exact⟨(none,0,[]),rfl,rfl,.nil _ _ _⟩
theorem lx(A:Option Addr)(n c:Nat)(xs:List Bod)(F:HL)(hl:SrcIn Tryz.prog kZ F A n xs)(hb:n <= 100000000):Sp Tryz.prog 113 #[.slice A n c] (ap [] []) F (λ u H'=>∃x:Option Addr × Nat × HL,H'=ap [] [x.2.2] /\ (u=.slice x.1 n x.2.1 /\ ClS kZ 90 xs x.1 x.2.1 x.2.2)):=by
 cases A with
 | some a=>exact pY a n c xs F hl hb
 | none =>
  obtain rfl:n=0:=hl.1.2 rfl;obtain rfl:xs=[]:=aaY hl.1.1;exact pZ c F
theorem qZ(a:Addr)(n c:Nat)(xs:List V2)(F:HL)(hl:SrcIn Tryz.prog lw F (some a) n xs)(hb:n <= 100000000):Sp Tryz.prog 114 #[.slice (some a) n c] [] F (λ u H'=>∃x:Option Addr × Nat × HL,H'=ap [] [x.2.2] /\ (u=.slice x.1 n x.2.1 /\ ClS lw 29 xs x.1 x.2.1 x.2.2)):=by
 refine aau Tryz.func114 rfl mn (A:=[]) (Ts:=[]) rfl λ w0=>?_;refine ae 19 [] λ n1=>aap<|jo (A:=(some ⟨(n1+0),0,none⟩)) (B:=(some a)) (c':=c) An xs 0 (λ a_ e_=>by cases e_;rfl) (m:=n) (tx:=83) hl.1.1.symm (by rw[hl.1.1];exact hb) (λ e_ he X w hR=>hl.2 c he X w hR) ?_;rintro A2 c3 T4 TH;refine ae 3 [] λ _=>aaq [] [] [0] (v:=.slice A2 xs.length c3) (H':=(ap [] [T4])) ?_;exact⟨(A2,c3,T4),rfl,by rw[hl.1.1],_,TH⟩
theorem rd(c:Nat)(F:HL):Sp Tryz.prog 114 #[.slice none 0 c] [] F (λ u H'=>∃x:Option Addr × Nat × HL,H'=ap [] [x.2.2] /\ (u=.slice x.1 0 x.2.1 /\ ClS lw 29 [] x.1 x.2.1 x.2.2)):=by
 refine aau Tryz.func114 rfl mn (A:=[]) (Ts:=[]) rfl λ w0=>?_;refine ae 18 [] λ _=>aaq [] [] [] (v:=.slice none 0 0) (H':=(ap [] [])) ?_;exact⟨(none,0,[]),rfl,rfl,.nil _ _ _⟩
theorem mC(A:Option Addr)(n c:Nat)(xs:List V2)(F:HL)(hl:SrcIn Tryz.prog lw F A n xs)(hb:n <= 100000000):Sp Tryz.prog 114 #[.slice A n c] (ap [] []) F (λ u H'=>∃x:Option Addr × Nat × HL,H'=ap [] [x.2.2] /\ (u=.slice x.1 n x.2.1 /\ ClS lw 29 xs x.1 x.2.1 x.2.2)):=by
 cases A with
 | some a=>exact qZ a n c xs F hl hb
 | none =>
  obtain rfl:n=0:=hl.1.2 rfl;obtain rfl:xs=[]:=aaY hl.1.1;exact rd c F
theorem re(a:Addr)(n c:Nat)(xs:List Bx)(F:HL)(hl:SrcIn Tryz.prog xB F (some a) n xs)(hb:n <= 100000000):Sp Tryz.prog 115 #[.slice (some a) n c] [] F (λ u H'=>∃x:Option Addr × Nat × HL,H'=ap [] [x.2.2] /\ (u=.slice x.1 n x.2.1 /\ ClS xB 25 xs x.1 x.2.1 x.2.2)):=by
 refine aau Tryz.func115 rfl mn (A:=[]) (Ts:=[]) rfl λ w0=>?_;refine ae 19 [] λ n1=>aap<|jo (A:=(some ⟨(n1+0),0,none⟩)) (B:=(some a)) (c':=c) Ht xs 0 (λ a_ e_=>by cases e_;rfl) (m:=n) (tx:=26) hl.1.1.symm (by rw[hl.1.1];exact hb) (λ e_ he X w hR=>hl.2 c he X w hR) ?_;rintro A2 c3 T4 TH;refine ae 3 [] λ _=>aaq [] [] [0] (v:=.slice A2 xs.length c3) (H':=(ap [] [T4])) ?_;exact⟨(A2,c3,T4),rfl,by rw[hl.1.1],_,TH⟩
theorem rg(c:Nat)(F:HL):Sp Tryz.prog 115 #[.slice none 0 c] [] F (λ u H'=>∃x:Option Addr × Nat × HL,H'=ap [] [x.2.2] /\ (u=.slice x.1 0 x.2.1 /\ ClS xB 25 [] x.1 x.2.1 x.2.2)):=by
 refine aau Tryz.func115 rfl mn (A:=[]) (Ts:=[]) rfl λ w0=>?_;refine ae 18 [] λ _=>aaq [] [] [] (v:=.slice none 0 0) (H':=(ap [] [])) ?_;exact⟨(none,0,[]),rfl,rfl,.nil _ _ _⟩
theorem mD(A:Option Addr)(n c:Nat)(xs:List Bx)(F:HL)(hl:SrcIn Tryz.prog xB F A n xs)(hb:n <= 100000000):Sp Tryz.prog 115 #[.slice A n c] (ap [] []) F (λ u H'=>∃x:Option Addr × Nat × HL,H'=ap [] [x.2.2] /\ (u=.slice x.1 n x.2.1 /\ ClS xB 25 xs x.1 x.2.1 x.2.2)):=by
 cases A with
 | some a=>exact re a n c xs F hl hb
 | none =>
  obtain rfl:n=0:=hl.1.2 rfl;obtain rfl:xs=[]:=aaY hl.1.1;exact rg c F
theorem p5(a:Addr)(n c:Nat)(xs:List Dr)(F:HL)(hl:SrcIn Tryz.prog mX F (some a) n xs)(hb:n <= 100000000):Sp Tryz.prog 116 #[.slice (some a) n c] [] F (λ u H'=>∃x:Option Addr × Nat × HL,H'=ap [] [x.2.2] /\ (u=.slice x.1 n x.2.1 /\ ClS mX 81 xs x.1 x.2.1 x.2.2)):=by
 refine aau Tryz.func116 rfl mn (A:=[]) (Ts:=[]) rfl λ w0=>?_;refine ae 19 [] λ n1=>aap<|jo (A:=(some ⟨(n1+0),0,none⟩)) (B:=(some a)) (c':=c) Hu xs 0 (λ a_ e_=>by cases e_;rfl) (m:=n) (tx:=27) hl.1.1.symm (by rw[hl.1.1];exact hb) (λ e_ he X w hR=>hl.2 c he X w hR) ?_;rintro A2 c3 T4 TH;refine ae 3 [] λ _=>aaq [] [] [0] (v:=.slice A2 xs.length c3) (H':=(ap [] [T4])) ?_;exact⟨(A2,c3,T4),rfl,by rw[hl.1.1],_,TH⟩
theorem p6(c:Nat)(F:HL):Sp Tryz.prog 116 #[.slice none 0 c] [] F (λ u H'=>∃x:Option Addr × Nat × HL,H'=ap [] [x.2.2] /\ (u=.slice x.1 0 x.2.1 /\ ClS mX 81 [] x.1 x.2.1 x.2.2)):=by
 refine aau Tryz.func116 rfl mn (A:=[]) (Ts:=[]) rfl λ w0=>?_;refine ae 18 [] λ _=>aaq [] [] [] (v:=.slice none 0 0) (H':=(ap [] [])) ?_;exact⟨(none,0,[]),rfl,rfl,.nil _ _ _⟩
theorem ly(A:Option Addr)(n c:Nat)(xs:List Dr)(F:HL)(hl:SrcIn Tryz.prog mX F A n xs)(hb:n <= 100000000):Sp Tryz.prog 116 #[.slice A n c] (ap [] []) F (λ u H'=>∃x:Option Addr × Nat × HL,H'=ap [] [x.2.2] /\ (u=.slice x.1 n x.2.1 /\ ClS mX 81 xs x.1 x.2.1 x.2.2)):=by
 cases A with
 | some a=>exact p5 a n c xs F hl hb
 | none =>
  obtain rfl:n=0:=hl.1.2 rfl;obtain rfl:xs=[]:=aaY hl.1.1;exact p6 c F
theorem rh(a:Addr)(n c:Nat)(xs:List Ins)(F:HL)(hl:SrcIn Tryz.prog k8 F (some a) n xs)(hb:n <= 100000000):Sp Tryz.prog 130 #[.slice (some a) n c] [] F (λ u H'=>∃x:Option Addr × Nat × HL,H'=ap [] [x.2.2] /\ (u=.slice x.1 n x.2.1 /\ ClS k8 231 xs x.1 x.2.1 x.2.2)):=by
 refine aau Tryz.func130 rfl mn (A:=[]) (Ts:=[]) rfl λ w0=>?_;refine ae 19 [] λ n1=>aap<|jo (A:=(some ⟨(n1+0),0,none⟩)) (B:=(some a)) (c':=c) Gq xs 0 (λ a_ e_=>by cases e_;rfl) (m:=n) (tx:=139) hl.1.1.symm (by rw[hl.1.1];exact hb) (λ e_ he X w hR=>hl.2 c he X w hR) ?_;rintro A2 c3 T4 TH;refine ae 3 [] λ _=>aaq [] [] [0] (v:=.slice A2 xs.length c3) (H':=(ap [] [T4])) ?_;exact⟨(A2,c3,T4),rfl,by rw[hl.1.1],_,TH⟩
theorem ri(c:Nat)(F:HL):Sp Tryz.prog 130 #[.slice none 0 c] [] F (λ u H'=>∃x:Option Addr × Nat × HL,H'=ap [] [x.2.2] /\ (u=.slice x.1 0 x.2.1 /\ ClS k8 231 [] x.1 x.2.1 x.2.2)):=by
 refine aau Tryz.func130 rfl mn (A:=[]) (Ts:=[]) rfl λ w0=>?_;refine ae 18 [] λ _=>aaq [] [] [] (v:=.slice none 0 0) (H':=(ap [] [])) ?_;exact⟨(none,0,[]),rfl,rfl,.nil _ _ _⟩
theorem mE(A:Option Addr)(n c:Nat)(xs:List Ins)(F:HL)(hl:SrcIn Tryz.prog k8 F A n xs)(hb:n <= 100000000):Sp Tryz.prog 130 #[.slice A n c] (ap [] []) F (λ u H'=>∃x:Option Addr × Nat × HL,H'=ap [] [x.2.2] /\ (u=.slice x.1 n x.2.1 /\ ClS k8 231 xs x.1 x.2.1 x.2.2)):=by
 cases A with
 | some a=>exact rh a n c xs F hl hb
 | none =>
  obtain rfl:n=0:=hl.1.2 rfl;obtain rfl:xs=[]:=aaY hl.1.1;exact ri c F
theorem oX(a:Addr)(n c:Nat)(xs:List Inp)(F:HL)(hl:SrcIn Tryz.prog cL F (some a) n xs)(hb:n <= 100000000):Sp Tryz.prog 46 #[.slice (some a) n c] [] F (λ u H'=>∃x:Option Addr × Nat × HL,H'=ap [] [x.2.2] /\ (u=.slice x.1 n x.2.1 /\ ClS cL 40 xs x.1 x.2.1 x.2.2)):=by
 refine aau Tryz.func46 rfl mn (A:=[]) (Ts:=[]) rfl λ w0=>?_;refine ae 19 [] λ n1=>aap<|jo (A:=(some ⟨(n1+0),0,none⟩)) (B:=(some a)) (c':=c) oL xs 0 (λ a_ e_=>by cases e_;rfl) (m:=n) (tx:=38) hl.1.1.symm (by rw[hl.1.1];exact hb) (λ e_ he X w hR=>hl.2 c he X w hR) ?_;rintro A2 c3 T4 TH;refine ae 3 [] λ _=>aaq [] [] [0] (v:=.slice A2 xs.length c3) (H':=(ap [] [T4])) ?_;exact⟨(A2,c3,T4),rfl,by rw[hl.1.1],_,TH⟩
theorem oY(c:Nat)(F:HL):Sp Tryz.prog 46 #[.slice none 0 c] [] F (λ u H'=>∃x:Option Addr × Nat × HL,H'=ap [] [x.2.2] /\ (u=.slice x.1 0 x.2.1 /\ ClS cL 40 [] x.1 x.2.1 x.2.2)):=by
 refine aau Tryz.func46 rfl mn (A:=[]) (Ts:=[]) rfl λ w0=>?_;refine ae 18 [] λ _=>aaq [] [] [] (v:=.slice none 0 0) (H':=(ap [] [])) ?_;exact⟨(none,0,[]),rfl,rfl,.nil _ _ _⟩
theorem kQ(A:Option Addr)(n c:Nat)(xs:List Inp)(F:HL)(hl:SrcIn Tryz.prog cL F A n xs)(hb:n <= 100000000):Sp Tryz.prog 46 #[.slice A n c] (ap [] []) F (λ u H'=>∃x:Option Addr × Nat × HL,H'=ap [] [x.2.2] /\ (u=.slice x.1 n x.2.1 /\ ClS cL 40 xs x.1 x.2.1 x.2.2)):=by
 cases A with
 | some a=>exact oX a n c xs F hl hb
 | none =>
  obtain rfl:n=0:=hl.1.2 rfl;obtain rfl:xs=[]:=aaY hl.1.1;exact oY c F
def eM(lo hi:Int)(ns:List Int):Prop:=∀k,k<ns.length -> lo <= ns.getD k 0 /\ ns.getD k 0 <= hi
instance (lo hi:Int) (ns:List Int):Decidable (eM lo hi ns):=inferInstanceAs (Decidable (∀k,k<ns.length -> _))
theorem xE(lo hi:Int):eM lo hi []:=λ k hk=>absurd hk (Nat.not_lt_zero _)
theorem tJ{lo hi x:Int}{ns:List Int}:eM lo hi (x::ns)↔(lo <= x /\ x <= hi) /\ eM lo hi ns:=by
 constructor
 ·intro h;exact⟨h 0 (Nat.succ_pos _),λ k hk=>h (k+1) (Nat.succ_lt_succ hk)⟩
 ·rintro⟨h1,h2⟩ k hk;cases k with
  | zero=>exact h1
  | succ k=>exact h2 k (Nat.lt_of_succ_lt_succ hk)
theorem eI(lo hi:Int)(ns:List Int)(q:Nat)(F:HL)(hq:(q,.rows 1 ns.length (aE ns) 3 (0,0))∈F)(hn:ns.length <= 1000000):Sp Tryz.prog 142 #[vI lo,vI hi,vS q 0 ns.length ns.length] [] F (λ u H'=>u=.bool (decide (eM lo hi ns)) /\ H'=[]):=by
 refine aau Tryz.func142 rfl (mc hq mn) (A:=[]) (Ts:=[]) rfl λ w0=>?_;refine ae 14 [] λ _=>aao (σ:=Nat) (λ k=>⟨[(0,vI lo),(1,vI hi),(9,vS q 0 ns.length ns.length),(10,vI (ns.length:Int)),(11,vI (k:Int))],[],[],k <= ns.length /\ ∀t,t<k -> lo <= ns.getD t 0 /\ ns.getD t 0 <= hi,ns.length-k⟩) 0 [] [] (⟨aaL _,λ t ht=>absurd ht (Nat.not_lt_zero _)⟩) ?_;rintro k ⟨hkl,hwk⟩ S_;refine ae 6 [] λ _=>aam ((k:Int)<(ns.length:Int)) 12 (λ h3=>?_) λ h3=>?_
 ·refine ai 18 [.ix k,.rorow 0 k 0] [(0+k*1)=k*1+0 /\ k<ns.length,(k:Int)=((k:Nat):Int) /\ k<ns.length] λ _=>aam (ns.getD k 0<lo) 18 (λ h4=>?_) λ h4=>?_
  ·refine ae 12 [] λ _=>aaq [] [] [] (v:=.bool false) (H':=[]) ?_;exact⟨by rw[aa9 (show ¬ eM lo hi ns from λ h_=>by have:=h_ k (by omega);omega)],rfl⟩
  ·refine ae 6 [] λ _=>aam (ns.getD k 0>hi) 22 (λ h5=>?_) λ h5=>?_
   ·refine ae 6 [] λ _=>aaq [] [] [] (v:=.bool false) (H':=[]) ?_;exact⟨by rw[aa9 (show ¬ eM lo hi ns from λ h_=>by have:=h_ k (by omega);omega)],rfl⟩
   ·refine ai 8 [.nw] [bn ((k:Int)+1)] λ _=>?_;refine S_ (k+1) [] [] ?_
    try dsimp only
    refine⟨⟨by omega,λ t ht=>?_⟩,by omega⟩;rcases aaZ t k with h_|h_
    ·exact hwk t h_
    ·obtain rfl:t=k:=by omega
     exact⟨by omega,by omega⟩
 ·refine ae 11 [] λ _=>aaq [] [] [] (v:=.bool true) (H':=[]) ?_;exact⟨by rw[aba (show eM lo hi ns from λ t ht=>hwk t (by omega))],rfl⟩
def gG(b:Bx):Prop:=(b.x0 <= b.x1 /\ b.y0 <= b.y1) /\ eM (-1048576) 1048576 [b.x0,b.y0,b.x1,b.y1]
instance (b:Bx):Decidable (gG b):=inferInstanceAs (Decidable (_ /\ _))
def fy(b:Bod)(x:Bx):Prop:=eM 0 4096 [b.mot.inv] /\ eM (-16384) 16384 [b.mot.vx,b.mot.vy] /\ eM x.x0 x.x1 [b.mot.px] /\ eM x.y0 x.y1 [b.mot.py] /\ eM (-2147483647) 2147483647 [b.a,b.b]
instance (b:Bod) (x:Bx):Decidable (fy b x):=inferInstanceAs (Decidable (_ /\ _))
def jz(S:Setup):Prop:=eM 1 8 [S.players] /\ eM S.players 24 [(S.nb:Int)] /\ eM 0 4194304 [S.fog] /\ eM (-16384) 16384 [S.g.x,S.g.y] /\ eM 0 16384 [S.push] /\ eM 0 1024 [S.drag,S.rest] /\ eM 1 4 [S.rounds] /\ eM 0 1000 [S.fuel]
instance (S:Setup):Decidable (jz S):=inferInstanceAs (Decidable (_ /\ _))
theorem rj(b:Bx)  (F:HL):Sp Tryz.prog 110 #[.agg #[vI b.x0,vI b.y0,vI b.x1,vI b.y1]] [] F (λ u H'=>u=.bool (decide (gG b)) /\ H'=[]):=by
 refine aau Tryz.func110 rfl mn (A:=[]) (Ts:=[]) rfl λ w0=>?_;refine ae 14 (aab 2) λ n1=>aam (b.x0 <= b.x1) 8 (λ h2=>?_) λ h2=>?_
 ·refine ae 7 (aab 2) λ _=>aam (b.y0 <= b.y1) 15 (λ h3=>?_) λ h3=>?_
  ·refine ae 9 (aab 4) λ n4=>aak 0 (.rows 1 4 (aE [b.x0,b.y0,b.x1,b.y1]) 3 (0,0))<|aai (eI (-1048576) 1048576 [b.x0,b.y0,b.x1,b.y1] (n4+0) _ (aw 0) (aaJ rfl))<|ae 4 [] λ _=>aaq [] [] [] (v:=.bool (decide (eM (-1048576) 1048576 [b.x0,b.y0,b.x1,b.y1]))) (H':=[]) ?_;exact⟨by simp[gG, *],rfl⟩
  ·refine ae 14 [] λ _=>aaq [] [] [] (v:=.bool false) (H':=[]) ?_;exact⟨by simp[gG, *],rfl⟩
 ·refine ae 21 [] λ _=>aaq [] [] [] (v:=.bool false) (H':=[]) ?_;exact⟨by simp[gG, *],rfl⟩
theorem Ev(b:Bod)(x:Bx)(F:HL):Sp Tryz.prog 112 #[.agg #[vI b.sh.r,.slice b.sh.A b.sh.poly.length b.sh.cap,vI b.mot.px,vI b.mot.py,vI b.mot.vx,vI b.mot.vy,vI b.mot.inv,vI b.a,vI b.b],.agg #[vI x.x0,vI x.y0,vI x.x1,vI x.y1]] [] F (λ u H'=>u=.bool (decide (fy b x)) /\ H'=[]):=by
 refine aau Tryz.func112 rfl mn (A:=[]) (Ts:=[]) rfl λ w0=>?_;refine ae 20 (ow 1 5++ow 0 6) λ n1=>aak 0 (.rows 1 1 (aE [b.mot.inv]) 3 (0,0))<|aai (eI 0 4096 [b.mot.inv] (n1+3) _ (aw 0) (aaJ rfl))<|ae 1 [] λ _=>aam (eM 0 4096 [b.mot.inv]) 12 (λ h2=>?_) λ h2=>?_
 ·refine ae 7 (ow 1 2) λ n3=>aak 0 (.rows 1 2 (aE [b.mot.vx,b.mot.vy]) 3 (0,0))<|aai (eI (-16384) 16384 [b.mot.vx,b.mot.vy] (n3+0) _ (aw 0) (aaJ rfl))<|ae 2 [] λ _=>aam (eM (-16384) 16384 [b.mot.vx,b.mot.vy]) 22 (λ h4=>?_) λ h4=>?_
  ·refine ae 8 [.own 3,.own 3,.own 2] λ n5=>aak 0 (.rows 1 1 (aE [b.mot.px]) 3 (0,0))<|aai (eI x.x0 x.x1 [b.mot.px] (n5+0) _ (aw 0) (aaJ rfl))<|ae 2 [] λ _=>aam (eM x.x0 x.x1 [b.mot.px]) 33 (λ h6=>?_) λ h6=>?_
   ·refine ae 8 [.own 4,.own 4,.own 3] λ n7=>aak 0 (.rows 1 1 (aE [b.mot.py]) 3 (0,0))<|aai (eI x.y0 x.y1 [b.mot.py] (n7+0) _ (aw 0) (aaJ rfl))<|ae 2 [] λ _=>aam (eM x.y0 x.y1 [b.mot.py]) 44 (λ h8=>?_) λ h8=>?_
    ·refine ae 5 (ow 6 2) λ n9=>aak 0 (.rows 1 2 (aE [b.a,b.b]) 3 (0,0))<|aai (eI (-2147483647) 2147483647 [b.a,b.b] (n9+0) _ (aw 0) (aaJ rfl))<|ae 4 [] λ _=>aaq [] [] [] (v:=.bool (decide (eM (-2147483647) 2147483647 [b.a,b.b]))) (H':=[]) ?_;exact⟨by simp[fy, *],rfl⟩
    ·refine ae 10 [] λ _=>aaq [] [] [] (v:=.bool false) (H':=[]) ?_;exact⟨by simp[fy, *],rfl⟩
   ·refine ae 21 [] λ _=>aaq [] [] [] (v:=.bool false) (H':=[]) ?_;exact⟨by simp[fy, *],rfl⟩
  ·refine ae 32 [] λ _=>aaq [] [] [] (v:=.bool false) (H':=[]) ?_;exact⟨by simp[fy, *],rfl⟩
 ·refine ae 42 [] λ _=>aaq [] [] [] (v:=.bool false) (H':=[]) ?_;exact⟨by simp[fy, *],rfl⟩
theorem Hy(S:Setup)(F:HL):Sp Tryz.prog 109 #[(Setup.v S)] [] F (λ u H'=>u=.bool (decide (jz S)) /\ H'=[]):=by
 refine aau Tryz.func109 rfl mn (A:=[]) (Ts:=[]) rfl λ w0=>?_;refine ae 11 [.own 0] λ n1=>aak 0 (.rows 1 1 (aE [S.players]) 3 (0,0))<|aai (eI 1 8 [S.players] (n1+1) _ (aw 0) (aaJ rfl))<|ae 1 [] λ _=>aam (eM 1 8 [S.players]) 7 (λ h2=>?_) λ h2=>?_
 ·refine ae 6 (ow 1 2) λ n3=>aak 0 (.rows 1 1 (aE [(S.nb:Int)]) 3 (0,0))<|aai (eI S.players 24 [(S.nb:Int)] (n3+0) _ (aw 0) (aaJ rfl))<|ae 2 [] λ _=>aam (eM S.players 24 [(S.nb:Int)]) 16 (λ h4=>?_) λ h4=>?_
  ·refine ae 3 [.own 2] λ n5=>aak 0 (.rows 1 1 (aE [S.fog]) 3 (0,0))<|aai (eI 0 4194304 [S.fog] (n5+0) _ (aw 0) (aaJ rfl))<|ae 2 [] λ _=>aam (eM 0 4194304 [S.fog]) 22 (λ h6=>?_) λ h6=>?_
   ·refine ae 7 (ow 3 2) λ n7=>aak 0 (.rows 1 2 (aE [S.g.x,S.g.y]) 3 (0,0))<|aai (eI (-16384) 16384 [S.g.x,S.g.y] (n7+0) _ (aw 0) (aaJ rfl))<|ae 2 [] λ _=>aam (eM (-16384) 16384 [S.g.x,S.g.y]) 32 (λ h8=>?_) λ h8=>?_
    ·refine ae 3 [.own 4] λ n9=>aak 0 (.rows 1 1 (aE [S.push]) 3 (0,0))<|aai (eI 0 16384 [S.push] (n9+0) _ (aw 0) (aaJ rfl))<|ae 2 [] λ _=>aam (eM 0 16384 [S.push]) 38 (λ Uh=>?_) λ Uh=>?_
     ·refine ae 5 (ow 5 2) λ n11=>aak 0 (.rows 1 2 (aE [S.drag,S.rest]) 3 (0,0))<|aai (eI 0 1024 [S.drag,S.rest] (n11+0) _ (aw 0) (aaJ rfl))<|ae 2 [] λ _=>aam (eM 0 1024 [S.drag,S.rest]) 46 (λ SO=>?_) λ SO=>?_
      ·refine ae 3 [.own 6] λ Wp=>aak 0 (.rows 1 1 (aE [S.rounds]) 3 (0,0))<|aai (eI 1 4 [S.rounds] (Wp+0) _ (aw 0) (aaJ rfl))<|ae 2 [] λ _=>aam (eM 1 4 [S.rounds]) 52 (λ UI=>?_) λ UI=>?_
       ·refine ae 3 [.own 7] λ n15=>aak 0 (.rows 1 1 (aE [S.fuel]) 3 (0,0))<|aai (eI 0 1000 [S.fuel] (n15+0) _ (aw 0) (aaJ rfl))<|ae 4 [] λ _=>aaq [] [] [] (v:=.bool (decide (eM 0 1000 [S.fuel]))) (H':=[]) ?_;exact⟨by simp[jz, *],rfl⟩
       ·refine ae 8 [] λ _=>aaq [] [] [] (v:=.bool false) (H':=[]) ?_;exact⟨by simp[jz, *],rfl⟩
      ·refine ae 14 [] λ _=>aaq [] [] [] (v:=.bool false) (H':=[]) ?_;exact⟨by simp[jz, *],rfl⟩
     ·refine ae 22 [] λ _=>aaq [] [] [] (v:=.bool false) (H':=[]) ?_;exact⟨by simp[jz, *],rfl⟩
    ·refine ae 28 [] λ _=>aaq [] [] [] (v:=.bool false) (H':=[]) ?_;exact⟨by simp[jz, *],rfl⟩
   ·refine ae 38 [] λ _=>aaq [] [] [] (v:=.bool false) (H':=[]) ?_;exact⟨by simp[jz, *],rfl⟩
  ·refine ae 44 [] λ _=>aaq [] [] [] (v:=.bool false) (H':=[]) ?_;exact⟨by simp[jz, *],rfl⟩
 ·refine ae 53 [] λ _=>aaq [] [] [] (v:=.bool false) (H':=[]) ?_;exact⟨by simp[jz, *],rfl⟩
def rk(n:Nat)(d:Dr):Prop:=eM 0 ((n:Int)-1) [d.a,d.b] /\ ¬ d.a=d.b
instance (n:Nat) (d:Dr):Decidable (rk n d):=inferInstanceAs (Decidable (_ /\ _))
def lz(S:Setup)(rs:List Bx)(ds:List Dr):Prop:=((S.rn:Int) <= 8 /\ (S.dn:Int) <= 16) /\ (∀k,k<S.rn -> gG (rs.getD k xB.dflt)) /\ ∀k,k<S.dn -> rk S.rn (ds.getD k mX.dflt)
instance (S:Setup) (rs:List Bx) (ds:List Dr):Decidable (lz S rs ds):=inferInstanceAs (Decidable (_ /\ _ /\ _))
theorem Hz(S:Setup)(rs:List Bx)(ds:List Dr)(F:HL)(hM:MapIn F S rs ds):Sp Tryz.prog 111 #[(Setup.v S)] [] F (λ u H'=>u=.bool (decide (lz S rs ds)) /\ H'=[]):=by
 refine aau Tryz.func111 rfl mn (A:=[]) (Ts:=[]) rfl λ w0=>?_;refine ae 14 [.own 0] λ n1=>aam ((S.rn:Int)>8) 11 (λ h2=>?_) λ h2=>?_
 ·refine ae 13 [] λ _=>aaq [] [] [] (v:=.bool false) (H':=[]) ?_;exact⟨by rw[aa9 (show ¬ lz S rs ds from λ h_=>by have:=h_.1;omega)],rfl⟩
 ·refine ae 7 [.own 0] λ _=>aam ((S.dn:Int)>16) 16 (λ h3=>?_) λ h3=>?_
  ·refine ae 6 [] λ _=>aaq [] [] [] (v:=.bool false) (H':=[]) ?_;exact⟨by rw[aa9 (show ¬ lz S rs ds from λ h_=>by have:=h_.1;omega)],rfl⟩
  ·refine ae 13 [.own 0] λ _=>aao (σ:=Nat) (λ k=>⟨[(1,vP (n1+0) 0),(18,.slice S.rA S.rn S.rc),(19,vI (S.rn:Int)),(20,vI (k:Int))],[((n1+0),.lit (Setup.l S) 31 (0,0))],[],k <= S.rn /\ ∀t,t<k -> gG (rs.getD t xB.dflt),S.rn-k⟩) 0 [0] [] (⟨aaL _,λ t ht=>absurd ht (Nat.not_lt_zero _)⟩) ?_;rintro k ⟨hkl,WD⟩ Xu;refine ae 6 [] λ _=>aam ((k:Int)<(S.rn:Int)) 21 (λ h6=>?_) λ h6=>?_
   ·refine ae 7 [] λ _=>?_;obtain⟨qx7,U0,Nx7,fx7,al9,adm,afa,akI,afQ⟩:=hM.rooms.at (k:=k) (by omega);refine aK 18 (congrArg (λ v_=>(.slice v_ S.rn S.rc:Value)) adm)<|RN.ro (λ _=>(mc afa mn))<|ai 2 [.ix k,.rorow 0 (U0+k) 0,.rorow 0 (U0+k) 1,.rorow 0 (U0+k) 2,.rorow 0 (U0+k) 3] [((U0*4+k*4)+3)=(U0+k)*4+3 /\ (U0+k)<Nx7,((U0*4+k*4)+2)=(U0+k)*4+2 /\ (U0+k)<Nx7,((U0*4+k*4)+1)=(U0+k)*4+1 /\ (U0+k)<Nx7,(U0*4+k*4)=(U0+k)*4+0 /\ (U0+k)<Nx7,(k:Int)=((k:Nat):Int) /\ k<S.rn] λ _=>aK 23 (congrArg (λ v_=>(.agg #[vI v_.x0,vI v_.y0,vI v_.x1,vI v_.y1]:Value)) afQ)<|ae 7 (ow 0 8) λ n8=>aai (rj (rs.getD k xB.dflt)  _)<|ae 3 [] λ _=>aan (gG (rs.getD k xB.dflt)) 26 (λ h9=>?_) λ h9=>?_
    ·refine ai 8 [.nw] [bn ((k:Int)+1)] λ _=>aK 18 (congrArg (λ v_=>(.slice v_ S.rn S.rc:Value)) adm.symm) ?_;refine Xu (k+1) [1] [] ?_
     try dsimp only
     refine⟨⟨by omega,λ t ht=>?_⟩,by omega⟩;rcases aaZ t k with h_|h_
     ·exact WD t h_
     ·obtain rfl:t=k:=by omega
      exact h9
    ·refine ae 6 [] λ _=>aaq [] [] [] (v:=.bool false) (H':=[]) ?_;exact⟨by rw[aa9 (show ¬ lz S rs ds from λ h_=>h9 (h_.2.1 k (by omega)))],rfl⟩
   ·refine ae 16 [.own 0] λ _=>aao (σ:=Nat) (λ j=>⟨[(1,vP (n1+0) 0),(29,.slice S.dA S.dn S.dc),(30,vI (S.dn:Int)),(31,vI (j:Int))],[((n1+0),.lit (Setup.l S) 31 (0,0))],[],j <= S.dn /\ ∀t,t<j -> rk S.rn (ds.getD t mX.dflt),S.dn-j⟩) 0 [0] [] (⟨aaL _,λ t ht=>absurd ht (Nat.not_lt_zero _)⟩) ?_;rintro j ⟨U7,ZS⟩ Ws;refine ae 6 [] λ _=>aam ((j:Int)<(S.dn:Int)) 32 (λ SO=>?_) λ SO=>?_
    ·refine ae 7 [] λ _=>?_;obtain⟨ajJ,UJ,adK,amd,aiO,YU,abZ,ahU,acs⟩:=hM.doors.at (k:=j) (by omega);refine aK 29 (congrArg (λ v_=>(.slice v_ S.dn S.dc:Value)) YU)<|RN.ro (λ _=>(mc abZ mn))<|ai 2 [.ix j,.rorow 0 (UJ+j) 0,.rorow 0 (UJ+j) 1] [((UJ*2+j*2)+1)=(UJ+j)*2+1 /\ (UJ+j)<adK,(UJ*2+j*2)=(UJ+j)*2+0 /\ (UJ+j)<adK,(j:Int)=((j:Nat):Int) /\ j<S.dn] λ _=>aK 34 (congrArg (λ v_=>(.agg #[vI v_.a,vI v_.b]:Value)) acs)<|ai 15 [.own 0,.own 0,.own 1,.nw,.own 0,.own 0] [bn ((S.rn:Int)-1)] λ n14=>aak 0 (.rows 1 2 (aE [(ds.getD j mX.dflt).a,(ds.getD j mX.dflt).b]) 3 (0,0))<|aai (eI 0 ((S.rn:Int)-1) [(ds.getD j mX.dflt).a,(ds.getD j mX.dflt).b] (n14+1) _ (aw 0) (aaJ rfl))<|ae 2 [] λ _=>aan (eM 0 ((S.rn:Int)-1) [(ds.getD j mX.dflt).a,(ds.getD j mX.dflt).b]) 46 (λ XD=>?_) λ XD=>?_
     ·refine ae 8 (ow 1 2) λ _=>aam ((ds.getD j mX.dflt).a=(ds.getD j mX.dflt).b) 52 (λ SY=>?_) λ SY=>?_
      ·refine ae 6 [] λ _=>aaq [] [] [] (v:=.bool false) (H':=[]) ?_;exact⟨by rw[aa9 (show ¬ lz S rs ds from λ h_=>(h_.2.2 j (by omega)).2 SY)],rfl⟩
      ·refine ai 8 [.nw] [bn ((j:Int)+1)] λ _=>aK 29 (congrArg (λ v_=>(.slice v_ S.dn S.dc:Value)) YU.symm) ?_;refine Ws (j+1) [2] [] ?_
       try dsimp only
       refine⟨⟨by omega,λ t ht=>?_⟩,by omega⟩;rcases aaZ t j with h_|h_
       ·exact ZS t h_
       ·obtain rfl:t=j:=by omega
        exact⟨XD,SY⟩
     ·refine ae 14 [] λ _=>aaq [] [] [] (v:=.bool false) (H':=[]) ?_;exact⟨by rw[aa9 (show ¬ lz S rs ds from λ h_=>XD (h_.2.2 j (by omega)).1)],rfl⟩
    ·refine ae 11 [] λ _=>aaq [] [] [] (v:=.bool true) (H':=[]) ?_;exact⟨by rw[aba (show lz S rs ds from ⟨⟨by omega,by omega⟩,λ t ht=>WD t (by omega),λ t ht=>ZS t (by omega)⟩)],rfl⟩
def tK(v w p:V2):Int:=bd (bd (bd (w.x-v.x)*bd (p.y-v.y))-bd (bd (w.y-v.y)*bd (p.x-v.x)))
def vv(n:Nat):List (Int × Int):=(List.range n).map λ i:Nat=>((i:Int),((i:Int)+1) % (n:Int))
theorem rm(n:Nat):(vv n).length=n:=by simp[vv]
theorem xF{n k:Nat}(h:k<n):(vv n)[k]?=some ((k:Int),((k:Int)+1) % (n:Int)):=by simp[vv,h]
theorem xG{n k:Nat}{x:Int × Int}(h:(vv n)[k]?=some x):k<n /\ x=((k:Int),((k:Int)+1) % (n:Int)):=by
 have hk:k<n:=by rw[<- rm n];exact(List.getElem?_eq_some_iff.1 h).1
 rw[xF hk] at h;exact⟨hk,(Option.some.inj h).symm⟩
abbrev MK(x:Int × Int):Array Value:=#[vI x.1,vI x.2]
def xH(n k:Nat):Int:=((k:Int)+1) % (n:Int)
abbrev vat(l:List V2)(k:Nat):V2:=l.getD k ⟨0,0⟩
def xJ(f:Nat -> V2)(n i:Nat):Prop:=¬ tK (f i) (f (xH n i).toNat) ⟨0,0⟩ <= 0 /\ ∀k,k<n -> ¬ (k:Int)=(i:Int) -> ¬ (k:Int)=xH n i -> ¬ tK (f i) (f (xH n i).toNat) (f k) <= 0
instance (f:Nat -> V2) (n i:Nat):Decidable (xJ f n i):=inferInstanceAs (Decidable (_ /\ _))
def pO(f:Nat -> V2)(n:Nat):Prop:=∀i,i<n -> xJ f n i
instance (f:Nat -> V2) (n:Nat):Decidable (pO f n):=inferInstanceAs (Decidable (∀i,i<n -> _))
theorem Lh{n k:Nat}(h:k<n):0 <= xH n k /\ xH n k<n:=⟨Int.emod_nonneg _ (by omega),Int.emod_lt_of_pos _ (by omega)⟩
theorem xK{f g:Nat -> V2}{n:Nat}(h:∀k,k<n -> f k=g k)(hf:pO f n):pO g n:=λ i hi=>by
 have hb:=Lh hi;have h1:=hf i hi;unfold xJ at h1 ⊢;rw[h i hi,h (xH n i).toNat (by omega)] at h1;refine⟨h1.1,λ k hk a b=>?_⟩;have:=h1.2 k hk a b;rwa [h k hk] at this
theorem tL(v w p:V2)(qw qv:Nat)(F:HL)(hqw:(qw,.lit [vI w.x,vI w.y] 29 (0,0))∈F)(hqv:(qv,.lit [vI v.x,vI v.y] 29 (0,0))∈F):Sp Tryz.prog 217 #[.agg #[vI p.x,vI p.y],vP qw 0,vP qv 0] [] F (λ u H'=>u=vI (tK v w p) /\ H'=[]):=by
 refine aau Tryz.func217 rfl (mc hqw (mc hqv mn)) (A:=[]) (Ts:=[]) rfl λ w0=>?_;refine ae 34 [.ro 0,.ro 1,.own 0,.ro 1,.ro 0,.ro 1,.own 0,.ro 1] λ n1=>?_;exact aaq [] [] [] ⟨rfl,rfl⟩
theorem HA(v w:V2)(F:HL):Sp Tryz.prog 174 #[.agg #[vI v.x,vI v.y],.agg #[vI w.x,vI w.y]] (ap [] []) F (λ u H'=>∃n:Nat,H'=ap [((n+1),.lit [vI w.x,vI w.y] 29 (0,0)),((n+0),.lit [vI v.x,vI v.y] 29 (0,0))] [] /\ u=.func (.func 217) #[] #[vP (n+1) 0,vP (n+0) 0]):=by
 refine aau Tryz.func174 rfl mn (A:=[]) (Ts:=[]) rfl λ w0=>?_;refine ae 13 [] λ n1=>aaq [] [0,1] [] (v:=.func (.func 217) #[] #[vP (n1+1) 0,vP (n1+0) 0]) (H':=(ap [((n1+1),.lit [vI w.x,vI w.y] 29 (0,0)),((n1+0),.lit [vI v.x,vI v.y] 29 (0,0))] [])) ?_;exact⟨_,rfl,rfl⟩
theorem Ew(n:Nat)(F:HL):Sp Tryz.prog 173 #[vI (n:Int)] (ap [] []) F (λ u H'=>∃q:Nat,H'=ap [(q,.lit [vI (n:Int)] 3 (0,0))] [] /\ u=.func (.func 216) #[] #[vP q 0]):=by
 refine aau Tryz.func173 rfl mn (A:=[]) (Ts:=[]) rfl λ w0=>?_;refine ae 12 [] λ n1=>aaq [] [0] [] (v:=.func (.func 216) #[] #[vP (n1+0) 0]) (H':=(ap [((n1+0),.lit [vI (n:Int)] 3 (0,0))] [])) ?_;exact⟨_,rfl,rfl⟩
theorem Ap(n q lp:Nat)(X F:HL)(J:Nat -> HL -> Prop)(Jx:HL -> Prop)(T0:HL)(hn:n <= 1000000)(hq:(q,.lit [vI (n:Int)] 3 (0,0))∈F)(hY:∀i x H Y,(vv n)[i]?=some x -> J i H -> YL Tryz.prog lp (MK x) H (Y++(X++F)) (λ b H'=>(b=true /\ J (i+1) H') \/ (b=false /\ Jx H')))(UH:J 0 T0):Sp Tryz.prog 216 #[.func (.yield lp) #[] #[],vP q 0] (ap [] [T0]) (X++F) (λ _ H'=>J (vv n).length H' \/ Jx H'):=by
 refine aau Tryz.func216 rfl (mc (aay X hq) mn) (A:=[]) (Ts:=[T0]) rfl λ w0=>?_;refine ae 7 [.ro 0] λ _=>aao (σ:=Nat × HL) (λ ⟨k,T_⟩=>⟨[(0,.func (.yield lp) #[] #[]),(1,vP q 0),(4,vI (n:Int)),(5,vI (k:Int))],[],[T_],k <= n /\ J k T_,n-k⟩) (0,T0) [] [0] (⟨aaL _,UH⟩) ?_;rintro⟨k,T_⟩ ⟨Xy,Sy⟩ S_;refine ae 6 [] λ _=>aam ((k:Int)<(n:Int)) 6 (λ h3=>?_) λ h3=>?_
 ·refine ai 19 [.nw,.ro 0,.nw] [0 <= (k:Int)+1 /\ (0:Int)<(n:Int) /\ (k:Int)+1 <= 9223372036854775807,bn ((k:Int)+1)] λ _=>aas 0 (hY k _ _ _ (xF (by omega)) Sy) ?_;rintro b_ T4 (⟨rfl,hJ5⟩|⟨rfl,hJ5⟩)
  ·refine ai 11 [.gen,.nw] [bn ((k:Int)+1)] λ _=>?_;refine S_ (k+1,T4) [] [0] ?_
   try dsimp only
   exact⟨⟨by omega,hJ5⟩,by omega⟩
  ·refine ae 4 [] λ _=>aaq [] [] [0] (v:=.tuple #[]) (H':=(ap [] [T4])) ?_;rw[aU];exact .inr hJ5
 ·refine ae 5 [] λ _=>aaq [] [] [0] (v:=.tuple #[]) (H':=(ap [] [T_])) ?_;rw[aU];obtain rfl:k=n:=by omega
  exact .inl (by rw[rm];exact Sy)
theorem HB(n q:Nat)(F:HL)(hn:n <= 1000000)(hq:(q,.lit [vI (n:Int)] 3 (0,0))∈F):It Tryz.prog 216 #[vP q 0] F MK (vv n):=by
 intro X l J Jx H0 hY h0;have key:=Ap n q l X F J Jx H0 hn hq hY h0;rw[aU] at key;exact key
theorem HC(full:List V2)(b o N n cap:Nat)(fz:Nat × Nat)(F:HL)(hb:(b,.rows 2 N (jU full) 29 fz)∈F)(ho:o+n <= N)(hnn:n <= 1000000):Sp Tryz.prog 141 #[vS b (o*2) n cap] [] F (λ u H'=>u=.bool (decide (pO (λ k_=>full.getD (o+k_) ⟨0,0⟩) n)) /\ H'=[]):=by
 refine Sp.runM Tryz.func141 rfl (mc hb mn) (A:=[]) (Ts:=[]) rfl λ w0=>?_;refine ae 9 [] λ n1=>ae 2 [.own 1] λ _=>aaj (Hp:=[]) (Tp:=[]) [] [] (Ew n _) ?_;rintro _ q2 rfl;refine ae 3 [] λ _=>RN.range (σ:=Nat) (τ:=Nat) (encs:=λ (x_:Int × Int)=>#[vI x_.1,vI x_.2]) (xs:=(vv n)) (enters_of Tryz.func216 (by kernel_rfl) rfl) (λ m_=>([((n1+1),.lit [.bool false] 4 (0,0)),((n1+0),.lit [vS b (o*2) n cap] 83 (0,0))],[])) (λ i_ m_=>m_=i_ /\ ∀t,t<m_ -> xJ (λ k_=>full.getD (o+k_) ⟨0,0⟩) n t) (λ c_ m_=>c_=Code.ret /\ ¬ pO (λ k_=>full.getD (o+k_) ⟨0,0⟩) n) (λ m_=>⟨[(1,vP (n1+0) 0),(2,vP (n1+1) 0),(3,vI (m_:Int)),(4,vI (((m_:Int)+1) % (n:Int)))],[((n1+1),.lit [.bool false] 4 (0,0)),((n1+0),.lit [vS b (o*2) n cap] 83 (0,0))],[],True,0⟩) (λ i_ x_ m_=>m_=i_ /\ ∀t,t<m_ -> xJ (λ k_=>full.getD (o+k_) ⟨0,0⟩) n t) 0 (⟨rfl,λ t ht=>absurd ht (Nat.not_lt_zero _)⟩) [1,2] [] (HB n q2 _ hnn (aw 0)) ?_ ?_ ?_ ?_
 ·rintro l_ i_ x_ m_ Y3 w4 hx5 Uy XI;obtain⟨rfl,g_⟩:=Uy;obtain⟨VG,rfl⟩:=xG hx5;refine ae 8 [] λ _=>?_;refine XI m_ [0,1] [] ?_
  try dsimp only
  exact⟨rfl,g_⟩
 ·rintro l_ i_ x_ m_ Y7 w8 hx9 Uy;obtain⟨rfl,g_⟩:=Uy;obtain⟨VG,rfl⟩:=xG hx9;have hm1:=Int.emod_nonneg ((m_:Int)+1) (show (n:Int)≠0 by omega);have hm2:=Int.emod_lt_of_pos ((m_:Int)+1) (show (0:Int)<n by omega);refine ae 2 [] λ _=>aal [] []<|aA [] [0,1,4,5,2,6,3,7] [.own 1,.own 1,.ix m_,.ix (((((m_:Int)+1) % (n:Int))).toNat),.rorow 1 (o+m_) 0,.rorow 1 (o+m_) 1,.rorow 1 (o+(((((m_:Int)+1) % (n:Int))).toNat)) 0,.rorow 1 (o+(((((m_:Int)+1) % (n:Int))).toNat)) 1] [((o*2+(((((m_:Int)+1) % (n:Int))).toNat)*2)+1)=(o+(((((m_:Int)+1) % (n:Int))).toNat))*2+1 /\ (o+(((((m_:Int)+1) % (n:Int))).toNat))<N,(o*2+(((((m_:Int)+1) % (n:Int))).toNat)*2)=(o+(((((m_:Int)+1) % (n:Int))).toNat))*2+0 /\ (o+(((((m_:Int)+1) % (n:Int))).toNat))<N,((o*2+m_*2)+1)=(o+m_)*2+1 /\ (o+m_)<N,(o*2+m_*2)=(o+m_)*2+0 /\ (o+m_)<N,(((m_:Int)+1) % (n:Int))=((((((m_:Int)+1) % (n:Int))).toNat:Nat):Int) /\ ((((m_:Int)+1) % (n:Int))).toNat<n,(m_:Int)=((m_:Nat):Int) /\ m_<n]<|aae 8 (aaf [] (Hp:=[]) (Tp:=[]) [] [] (HA (full.getD (o+m_) ⟨0,0⟩) (full.getD (o+(((((m_:Int)+1) % (n:Int))).toNat)) ⟨0,0⟩) _) ?_);rintro _ m10 rfl;refine ag [] [9] []<|aad<|ae 6 [] λ _=>aai (tL (full.getD (o+m_) ⟨0,0⟩) (full.getD (o+(((((m_:Int)+1) % (n:Int))).toNat)) ⟨0,0⟩) (⟨0,0⟩:V2) (m10+1) (m10+0) _ (aw 0) (aw 1))<|ae 3 [] λ _=>aam (tK (full.getD (o+m_) ⟨0,0⟩) (full.getD (o+(((((m_:Int)+1) % (n:Int))).toNat)) ⟨0,0⟩) (⟨0,0⟩:V2) <= 0) 25 (λ Tw=>?_) λ Tw=>?_
  ·refine ae 6 [.own 2] λ _=>RN.rr m_ [2,3] [] ?_
   try dsimp only
   exact⟨rfl,λ YN=>(YN m_ VG).1 Tw⟩
  ·refine ae 11 [.own 3] λ _=>aao (σ:=Nat) (λ k=>⟨[(2,vP (n1+1) 0),(3,vI (m_:Int)),(4,vI (((m_:Int)+1) % (n:Int))),(5,.func (.func 217) #[] #[vP (m10+1) 0,vP (m10+0) 0]),(26,vS b (o*2) n cap),(27,vI (n:Int)),(28,vI (k:Int))],[((m10+1),.lit [vI ((full.getD (o+(((((m_:Int)+1) % (n:Int))).toNat)) ⟨0,0⟩).x),vI ((full.getD (o+(((((m_:Int)+1) % (n:Int))).toNat)) ⟨0,0⟩).y)] 29 (0,0)),((m10+0),.lit [vI ((full.getD (o+m_) ⟨0,0⟩).x),vI ((full.getD (o+m_) ⟨0,0⟩).y)] 29 (0,0)),((n1+1),.lit [.bool false] 4 (0,0)),((n1+0),.lit [vS b (o*2) n cap] 83 (0,0))],[],k <= n /\ ∀t,t<k -> ¬ (t:Int)=(m_:Int) -> ¬ (t:Int)=xH n m_ -> ¬ tK (full.getD (o+m_) ⟨0,0⟩) (full.getD (o+(xH n m_).toNat) ⟨0,0⟩) (full.getD (o+t) ⟨0,0⟩) <= 0,n-k⟩) 0 [0,1,2,3] [] (⟨aaL _,λ t ht=>absurd ht (Nat.not_lt_zero _)⟩) ?_;rintro k ⟨hkl,SW⟩ Wq;refine ae 6 [] λ _=>aam ((k:Int)<(n:Int)) 29 (λ UI=>?_) λ UI=>?_
   ·refine ai 21 [.ix k,.rorow 1 (o+k) 0,.rorow 1 (o+k) 1,.own 0,.own 0] [((o*2+k*2)+1)=(o+k)*2+1 /\ (o+k)<N,(o*2+k*2)=(o+k)*2+0 /\ (o+k)<N,(k:Int)=((k:Nat):Int) /\ k<n] λ n15=>aan ((k:Int)=(m_:Int)) 36 (λ SY=>?_) λ SY=>?_
    ·refine ai 20 [.nw] [bn ((k:Int)+1)] λ _=>?_;refine Wq (k+1) [1,2,3,4] [] ?_
     try dsimp only
     refine⟨⟨by omega,λ t ht YW Wk=>?_⟩,by omega⟩;rcases aaZ t k with h_|h_
     ·exact SW t h_ YW Wk
     ·obtain rfl:t=k:=by omega
      exact absurd SY YW
    ·refine ae 5 [] λ _=>aan ((k:Int)=(((m_:Int)+1) % (n:Int))) 41 (λ h17=>?_) λ h17=>?_
     ·refine ai 15 [.nw] [bn ((k:Int)+1)] λ _=>?_;refine Wq (k+1) [1,2,3,4] [] ?_
      try dsimp only
      refine⟨⟨by omega,λ t ht YW Wk=>?_⟩,by omega⟩;rcases aaZ t k with h_|h_
      ·exact SW t h_ YW Wk
      ·obtain rfl:t=k:=by omega
       exact absurd h17 Wk
     ·refine ae 2 (aab 2) λ _=>aai (tL (full.getD (o+m_) ⟨0,0⟩) (full.getD (o+(((((m_:Int)+1) % (n:Int))).toNat)) ⟨0,0⟩) (full.getD (o+k) ⟨0,0⟩) (m10+1) (m10+0) _ (aw 1) (aw 2))<|ae 4 [] λ _=>aam (tK (full.getD (o+m_) ⟨0,0⟩) (full.getD (o+(((((m_:Int)+1) % (n:Int))).toNat)) ⟨0,0⟩) (full.getD (o+k) ⟨0,0⟩) <= 0) 46 (λ h18=>?_) λ h18=>?_
      ·refine ae 6 [.own 3] λ _=>RN.rr m_ [3,4] [] ?_
       try dsimp only
       refine⟨rfl,λ YN=>?_⟩;exact(YN m_ VG).2 k (by omega) SY h17 h18
      ·refine ai 8 [.nw] [bn ((k:Int)+1)] λ _=>?_;refine Wq (k+1) [1,2,3,4] [] ?_
       try dsimp only
       refine⟨⟨by omega,λ t ht YW Wk=>?_⟩,by omega⟩;rcases aaZ t k with h_|h_
       ·exact SW t h_ YW Wk
       ·obtain rfl:t=k:=by omega
        exact h18
   ·refine ae 6 [] λ _=>RN.rn (m_+1) [2,3] [] ?_
    try dsimp only
    refine⟨rfl,λ t ht=>?_⟩;rcases aaZ t m_ with h_|h_
    ·exact g_ t h_
    ·obtain rfl:t=m_:=by omega
     exact⟨Tw,λ s_ Sr=>SW s_ (by omega)⟩
 ·rintro d19 m_  Uy;obtain⟨rfl,g_⟩:=Uy;refine ae 7 [.own 1] λ _=>RN.retM [d19] [0] [.own 0] [] [] (v:=.bool true) (H':=[]) ?_;exact⟨by rw[aba (show pO (λ k_=>full.getD (o+k_) ⟨0,0⟩) n from λ t ht=>g_ t (by rw[rm];exact ht))],rfl⟩
 ·rintro d20 c_ m_ ⟨rfl,TC⟩;refine RN.retM [d20] [0] [.own 0] [] [] (v:=.bool false) (H':=[]) ?_;exact⟨by rw[aa9 TC],rfl⟩
def sK(n:Int):Prop:=-32768 <= n /\ n <= 32768
instance (n:Int):Decidable (sK n):=inferInstanceAs (Decidable (_ /\ _))
def mY(r:Int):Prop:=1 <= r /\ r <= 32768
instance (r:Int):Decidable (mY r):=inferInstanceAs (Decidable (_ /\ _))
def iw(r:Int)(f:Nat -> V2)(n:Nat):Prop:=(r=0 /\ 3 <= n /\ n <= 6) /\ (∀k,k<n -> sK (f k).x /\ sK (f k).y) /\ pO f n
instance (r:Int) (f:Nat -> V2) (n:Nat):Decidable (iw r f n):=inferInstanceAs (Decidable (_ /\ _ /\ _))
theorem pP{r:Int}{f g:Nat -> V2}{n:Nat}(h:∀k,k<n -> f k=g k)(hf:iw r f n):iw r g n :=
 ⟨hf.1,λ k hk=>by rw[<- h k hk];exact hf.2.1 k hk,xK h hf.2.2⟩
def kr(s:Shp):Prop:=if s.poly.length=0 then mY s.r else iw s.r (vat s.poly) s.poly.length
instance (s:Shp):Decidable (kr s):=inferInstanceAs (Decidable (if s.poly.length=0 then mY s.r else iw s.r (vat s.poly) s.poly.length))
theorem oZ{r:Int}{A:Option Addr}{cap:Nat}:kr ⟨r,[],A,cap⟩↔mY r:=by
 show (if (0:Nat)=0 then mY r else _)↔_;rw[if_pos rfl]
def Ey(s:Shp):Int:=if kr s then 0 else 10
theorem xL(n:Int)  (F:HL):Sp Tryz.prog 140 #[vI n] [] F (λ u H'=>u=.bool (decide (sK n)) /\ H'=[]):=by
 refine aau Tryz.func140 rfl mn (A:=[]) (Ts:=[]) rfl λ w0=>?_;refine ae 10 [] λ _=>aam ((-32768) <= n) 5 (λ h1=>?_) λ h1=>?_
 ·refine ae 6 [] λ _=>aaq [] [] [] (v:=.bool (decide (n <= 32768))) (H':=[]) ?_;exact⟨by simp[sK, *],rfl⟩
 ·refine ae 6 [] λ _=>aaq [] [] [] (v:=.bool false) (H':=[]) ?_;exact⟨by simp[sK, *],rfl⟩
theorem Aq(r:Int)(A:Option Addr)(cap:Nat)(F:HL):Sp Tryz.prog 108 #[.agg #[vI r,.slice A 0 cap]] [] F (λ u H'=>u=vI (Ey ⟨r,[],A,cap⟩) /\ H'=[]):=by
 refine aau Tryz.func108 rfl mn (A:=[]) (Ts:=[]) rfl λ w0=>?_;refine ae 10 (aab 2) λ n1=>aai (oK r A 0 cap _)<|ae 10 [.own 0] λ _=>aam (r<1) 10 (λ h2=>?_) λ h2=>?_
 ·refine ae 12 [] λ _=>aaq [] [] [] (v:=vI 10) (H':=[]) ?_;exact⟨by rw[Ey,if_neg (λ h_=>by have S7:=oZ.1 h_;unfold mY at S7;omega)],rfl⟩
 ·refine ae 6 [.own 0] λ _=>aam (r>32768) 14 (λ h3=>?_) λ h3=>?_
  ·refine ae 6 [] λ _=>aaq [] [] [] (v:=vI 10) (H':=[]) ?_;exact⟨by rw[Ey,if_neg (λ h_=>by have S7:=oZ.1 h_;unfold mY at S7;omega)],rfl⟩
  ·refine ae 8 [] λ _=>aaq [] [] [] (v:=vI 0) (H':=[]) ?_;exact⟨by rw[Ey,if_pos (oZ.2 ⟨by omega,by omega⟩)],rfl⟩
theorem HD(r:Int)(full:List V2)(b o N n cap:Nat)(fz:Nat × Nat)(F:HL)(hb:(b,.rows 2 N (jU full) 29 fz)∈F)(ho:o+n <= N)(h1:1 <= n)(hnn:n <= 1000000):Sp Tryz.prog 108 #[.agg #[vI r,vS b (o*2) n cap]] [] F (λ u H'=>u=vI (if iw r (λ k_=>full.getD (o+k_) ⟨0,0⟩) n then 0 else 10) /\ H'=[]):=by
 refine aau Tryz.func108 rfl (mc hb mn) (A:=[]) (Ts:=[]) rfl λ w0=>?_;refine ae 10 (aab 2) λ n1=>aai (oK r (some ⟨b,o*2,none⟩) n cap _)<|ae 2 [] λ _=>db 6 (aa9 (show ¬ ((n:Int)=0) by omega))<|ae 10 [.own 0] λ _=>aan (r=0) 18 (λ h2=>?_) λ h2=>?_
 ·refine ae 6 [.own 0] λ _=>aam ((n:Int)<3) 24 (λ h3=>?_) λ h3=>?_
  ·refine ae 13 [] λ _=>aaq [] [] [] (v:=vI 10) (H':=[]) ?_;exact⟨by rw[if_neg (show ¬ iw r (λ k_=>full.getD (o+k_) ⟨0,0⟩) n from λ h_=>by have:=h_.1;omega)],rfl⟩
  ·refine ae 7 [.own 0] λ _=>aam ((n:Int)>6) 29 (λ h4=>?_) λ h4=>?_
   ·refine ae 6 [] λ _=>aaq [] [] [] (v:=vI 10) (H':=[]) ?_;exact⟨by rw[if_neg (show ¬ iw r (λ k_=>full.getD (o+k_) ⟨0,0⟩) n from λ h_=>by have:=h_.1;omega)],rfl⟩
   ·refine ae 13 [.own 0] λ _=>aao (σ:=Nat) (λ k=>⟨[(1,vP (n1+0) 0),(31,vS b (o*2) n cap),(32,vI (n:Int)),(33,vI (k:Int))],[((n1+0),.lit [vI r,vS b (o*2) n cap] 85 (0,0))],[],k <= n /\ ∀t,t<k -> sK (full.getD (o+t) (⟨0,0⟩:V2)).x /\ sK (full.getD (o+t) (⟨0,0⟩:V2)).y,n-k⟩) 0 [0] [] (⟨aaL _,λ t ht=>absurd ht (Nat.not_lt_zero _)⟩) ?_;rintro k ⟨hkl,SW⟩ XI;refine ae 6 [] λ _=>aam ((k:Int)<(n:Int)) 34 (λ h7=>?_) λ h7=>?_
    ·refine ai 17 [.ix k,.rorow 0 (o+k) 0,.rorow 0 (o+k) 1,.own 0,.own 0,.own 0] [((o*2+k*2)+1)=(o+k)*2+1 /\ (o+k)<N,(o*2+k*2)=(o+k)*2+0 /\ (o+k)<N,(k:Int)=((k:Nat):Int) /\ k<n] λ n8=>aai (xL ((full.getD (o+k) ⟨0,0⟩).x)  _)<|ae 2 [] λ _=>aan (sK ((full.getD (o+k) ⟨0,0⟩).x)) 41 (λ h9=>?_) λ h9=>?_
     ·refine ae 2 [.own 0] λ _=>aai (xL ((full.getD (o+k) ⟨0,0⟩).y)  _)<|ae 4 [] λ _=>aan (sK ((full.getD (o+k) ⟨0,0⟩).y)) 46 (λ Uh=>?_) λ Uh=>?_
      ·refine ai 8 [.nw] [bn ((k:Int)+1)] λ _=>?_;refine XI (k+1) [1] [] ?_
       try dsimp only
       refine⟨⟨by omega,λ t ht=>?_⟩,by omega⟩;rcases aaZ t k with h_|h_
       ·exact SW t h_
       ·obtain rfl:t=k:=by omega
        exact⟨h9,Uh⟩
      ·refine ae 6 [] λ _=>aaq [] [] [] (v:=vI 10) (H':=[]) ?_;exact⟨by rw[if_neg (show ¬ iw r (λ k_=>full.getD (o+k_) ⟨0,0⟩) n from λ h_=>Uh (h_.2.1 k (by omega)).2)],rfl⟩
     ·refine ae 13 [] λ _=>aaq [] [] [] (v:=vI 10) (H':=[]) ?_;exact⟨by rw[if_neg (show ¬ iw r (λ k_=>full.getD (o+k_) ⟨0,0⟩) n from λ h_=>h9 (h_.2.1 k (by omega)).1)],rfl⟩
    ·refine ae 11 [.own 0] λ _=>aai (HC full b o N n cap fz _ (au hb) ho hnn)<|ae 3 [] λ _=>aan (pO (λ k_=>full.getD (o+k_) ⟨0,0⟩) n) 51 (λ Tw=>?_) λ Tw=>?_
     ·refine ae 8 [] λ _=>aaq [] [] [] (v:=vI 0) (H':=[]) ?_;exact⟨by rw[if_pos (show iw r (λ k_=>full.getD (o+k_) ⟨0,0⟩) n from ⟨⟨by omega,by omega,by omega⟩,λ t ht=>SW t (by omega),Tw⟩)],rfl⟩
     ·refine ae 6 [] λ _=>aaq [] [] [] (v:=vI 10) (H':=[]) ?_;exact⟨by rw[if_neg (show ¬ iw r (λ k_=>full.getD (o+k_) ⟨0,0⟩) n from λ h_=>Tw h_.2.2)],rfl⟩
 ·refine ae 19 [] λ _=>aaq [] [] [] (v:=vI 10) (H':=[]) ?_;exact⟨by rw[if_neg (show ¬ iw r (λ k_=>full.getD (o+k_) ⟨0,0⟩) n from λ h_=>by have:=h_.1;omega)],rfl⟩
theorem Li(s:Shp)(F:HL)(h:RowL lw 29 F s.A s.poly.length s.poly)(hn:s.poly.length <= 1000000):Sp Tryz.prog 108 #[O8 s] [] F (λ u H'=>u=vI (Ey s) /\ H'=[]):=by
 obtain⟨r,l,A,cap⟩:=s;simp only at h hn;rcases Nat.eq_zero_or_pos l.length with h0|h0
 ·obtain rfl:l=[]:=aaY h0;exact Aq r A cap F
 ·generalize hm:l.length=m at h h0 hn;cases h with
  | zero=>omega
  | rows q o N full fz n xs hq ho XU hx =>
   have:=HD r full q o N m cap fz F hq ho h0 hn;have e:Ey ⟨r,l,some ⟨q,o*2,none⟩,cap⟩=if iw r (λ k_=>full.getD (o+k_) ⟨0,0⟩) m then 0 else 10:=by
    have e1:kr ⟨r,l,some ⟨q,o*2,none⟩,cap⟩↔iw r (λ k_=>full.getD (o+k_) ⟨0,0⟩) m:=by
     unfold kr;simp only;rw[if_neg (by omega),hm];exact⟨pP λ k hk=>(hx k hk).symm,pP λ k hk=>hx k hk⟩
    unfold Ey
    by_cases hc:iw r (λ k_=>full.getD (o+k_) ⟨0,0⟩) m
    ·rw[if_pos hc,if_pos (e1.2 hc)]
    ·rw[if_neg hc,if_neg λ h=>hc (e1.1 h)]
   show Sp _ _ #[.agg #[vI r,.slice (some ⟨q,o*2,none⟩) l.length cap]] _ _ (λ u H'=>u=vI (Ey ⟨r,l,some ⟨q,o*2,none⟩,cap⟩) /\ H'=[]);rw[e,hm];exact this
structure SetSh(F:HL)(S:Setup):Prop where
 nb:S.nb <= 1000000
 blk:(S.bb,.rows 9 S.bR (je S.bods) 90 (0,0))∈F
 room:S.bo+S.nb <= S.bR
 pol:∀k,k<S.nb -> RowL lw 29 F (S.body k).sh.A (S.body k).sh.poly.length (S.body k).sh.poly /\ (S.body k).sh.poly.length <= 1000000
theorem ShIn.rowL{F:HL}{s:Shp}(h:ShIn F s):RowL lw 29 F s.A s.poly.length s.poly /\ s.poly.length <= 1000000:=by
 cases h with
 | circle r A cap=>exact⟨.zero _,aaL _⟩
 | poly r l b cap h h3 h4 h5=>exact⟨RowL.whole (e:=lw) h h4,h5⟩
def sL(S:Setup)(rs:List Bx)(ds:List Dr):Prop:=jz S /\ gG S.box /\ lz S rs ds
instance (S:Setup) (rs:List Bx) (ds:List Dr):Decidable (sL S rs ds):=inferInstanceAs (Decidable (_ /\ _))
def jL(S:Setup)(rs:List Bx)(ds:List Dr):Int:=if ∀k,k<S.nb -> kr (S.body k).sh then (if sL S rs ds then (if ∀k,k<S.nb -> fy (S.body k) S.box then 0 else 11) else 11) else 10
theorem NY{s:Shp}(h:Ey s=0):kr s:=by
 unfold Ey at h;split at h
 ·assumption
 ·omega
theorem NZ{s:Shp}(h:¬ Ey s=0):¬ kr s:=λ hc=>h (by rw[Ey,if_pos hc])
theorem Lj(S:Setup)(rs:List Bx)(ds:List Dr)(F:HL)(hS:SetSh F S)(hM:MapIn F S rs ds):Sp Tryz.prog 85 #[(Setup.v S)] [] F (λ u H'=>u=vI (jL S rs ds) /\ H'=[]):=by
 have hn:=hS.nb;have hr:=hS.room;refine aau Tryz.func85 rfl (mc hS.blk mn) (A:=[]) (Ts:=[]) rfl λ w0=>?_;refine ae 16 [.own 0] λ n1=>aao (σ:=Nat) (λ k=>⟨[(1,vP (n1+0) 0),(8,vS S.bb (S.bo*9) S.nb S.bc),(9,vI (S.nb:Int)),(10,vI (k:Int))],[((n1+0),.lit (Setup.l S) 31 (0,0))],[],k <= S.nb /\ ∀t,t<k -> kr (S.body t).sh,S.nb-k⟩) 0 [0] [] (⟨aaL _,λ t ht=>absurd ht (Nat.not_lt_zero _)⟩) ?_;rintro k ⟨hkl,V9⟩ Sm;refine ae 6 [] λ _=>aam ((k:Int)<(S.nb:Int)) 11 (λ h4=>?_) λ h4=>?_
 ·refine ai 17 ([.ix k,.rorow 0 (S.bo+k) 0,.rorow 0 (S.bo+k) 1,.rorow 0 (S.bo+k) 2,.rorow 0 (S.bo+k) 3,.rorow 0 (S.bo+k) 4,.rorow 0 (S.bo+k) 5,.rorow 0 (S.bo+k) 6,.rorow 0 (S.bo+k) 7,.rorow 0 (S.bo+k) 8]++ow 0 11) [((S.bo*9+k*9)+8)=(S.bo+k)*9+8 /\ (S.bo+k)<S.bR,((S.bo*9+k*9)+7)=(S.bo+k)*9+7 /\ (S.bo+k)<S.bR,((S.bo*9+k*9)+6)=(S.bo+k)*9+6 /\ (S.bo+k)<S.bR,((S.bo*9+k*9)+5)=(S.bo+k)*9+5 /\ (S.bo+k)<S.bR,((S.bo*9+k*9)+4)=(S.bo+k)*9+4 /\ (S.bo+k)<S.bR,((S.bo*9+k*9)+3)=(S.bo+k)*9+3 /\ (S.bo+k)<S.bR,((S.bo*9+k*9)+2)=(S.bo+k)*9+2 /\ (S.bo+k)<S.bR,((S.bo*9+k*9)+1)=(S.bo+k)*9+1 /\ (S.bo+k)<S.bR,(S.bo*9+k*9)=(S.bo+k)*9+0 /\ (S.bo+k)<S.bR,(k:Int)=((k:Nat):Int) /\ k<S.nb] λ n5=>aai (Li ((S.bods.getD (S.bo+k) dB).sh) _ (hS.pol k (by omega)).1.up (hS.pol k (by omega)).2)<|ae 3 [] λ _=>aan (Ey ((S.bods.getD (S.bo+k) dB).sh)=0) 17 (λ h6=>?_) λ h6=>?_
  ·refine ai 8 [.nw] [bn ((k:Int)+1)] λ _=>?_;refine Sm (k+1) [1] [] ?_
   try dsimp only
   refine⟨⟨by omega,λ t ht=>?_⟩,by omega⟩;rcases aaZ t k with h_|h_
   ·exact V9 t h_
   ·obtain rfl:t=k:=by omega
    exact NY h6
  ·refine ae 6 [] λ _=>aaq [] [] [] (v:=vI 10) (H':=[]) ?_;exact⟨by rw[jL,if_neg (show ¬ ∀k,k<S.nb -> kr (S.body k).sh from λ h_=>NZ h6 (h_ k (by omega)))],rfl⟩
 ·refine ae 10 (ow 0 16) λ _=>aai (Hy S _)<|ae 2 [] λ _=>aan (jz S) 22 (λ h7=>?_) λ h7=>?_
  ·refine ae 2 (aab 4) λ _=>aai (rj S.box  _)<|ae 3 [] λ _=>aan (gG S.box) 28 (λ h8=>?_) λ h8=>?_
   ·refine ae 1 (ow 0 16) λ _=>aai (Hz S rs ds _ hM.up)<|ae 4 [] λ _=>aan (lz S rs ds) 32 (λ h9=>?_) λ h9=>?_
    ·refine ae 13 [.own 0] λ _=>aao (σ:=Nat) (λ j=>⟨[(1,vP (n1+0) 0),(34,vS S.bb (S.bo*9) S.nb S.bc),(35,vI (S.nb:Int)),(36,vI (j:Int))],[((n1+0),.lit (Setup.l S) 31 (0,0))],[],j <= S.nb /\ ∀t,t<j -> fy (S.body t) S.box,S.nb-j⟩) 0 [0] [] (⟨aaL _,λ t ht=>absurd ht (Nat.not_lt_zero _)⟩) ?_;rintro j ⟨U7,hvb⟩ Ws;refine ae 6 [] λ _=>aam ((j:Int)<(S.nb:Int)) 37 (λ SO=>?_) λ SO=>?_
     ·refine ai 18 ([.ix j,.rorow 0 (S.bo+j) 0,.rorow 0 (S.bo+j) 1,.rorow 0 (S.bo+j) 2,.rorow 0 (S.bo+j) 3,.rorow 0 (S.bo+j) 4,.rorow 0 (S.bo+j) 5,.rorow 0 (S.bo+j) 6,.rorow 0 (S.bo+j) 7,.rorow 0 (S.bo+j) 8]++ow 0 18++(ow 1 4)) [((S.bo*9+j*9)+8)=(S.bo+j)*9+8 /\ (S.bo+j)<S.bR,((S.bo*9+j*9)+7)=(S.bo+j)*9+7 /\ (S.bo+j)<S.bR,((S.bo*9+j*9)+6)=(S.bo+j)*9+6 /\ (S.bo+j)<S.bR,((S.bo*9+j*9)+5)=(S.bo+j)*9+5 /\ (S.bo+j)<S.bR,((S.bo*9+j*9)+4)=(S.bo+j)*9+4 /\ (S.bo+j)<S.bR,((S.bo*9+j*9)+3)=(S.bo+j)*9+3 /\ (S.bo+j)<S.bR,((S.bo*9+j*9)+2)=(S.bo+j)*9+2 /\ (S.bo+j)<S.bR,((S.bo*9+j*9)+1)=(S.bo+j)*9+1 /\ (S.bo+j)<S.bR,(S.bo*9+j*9)=(S.bo+j)*9+0 /\ (S.bo+j)<S.bR,(j:Int)=((j:Nat):Int) /\ j<S.nb] λ Wp=>aai (Ev (S.bods.getD (S.bo+j) dB) S.box _)<|ae 3 [] λ _=>aan (fy (S.bods.getD (S.bo+j) dB) S.box) 44 (λ UI=>?_) λ UI=>?_
      ·refine ai 8 [.nw] [bn ((j:Int)+1)] λ _=>?_;refine Ws (j+1) [1] [] ?_
       try dsimp only
       refine⟨⟨by omega,λ t ht=>?_⟩,by omega⟩;rcases aaZ t j with h_|h_
       ·exact hvb t h_
       ·obtain rfl:t=j:=by omega
        exact UI
      ·refine ae 6 [] λ _=>aaq [] [] [] (v:=vI 11) (H':=[]) ?_;exact⟨by rw[jL,if_pos (show ∀k,k<S.nb -> kr (S.body k).sh from λ t ht=>V9 t (by omega)),if_pos (show sL S rs ds from ⟨h7,h8,h9⟩),if_neg (show ¬ ∀k,k<S.nb -> fy (S.body k) S.box from λ h_=>UI (h_ j (by omega)))],rfl⟩
     ·refine ae 11 [] λ _=>aaq [] [] [] (v:=vI 0) (H':=[]) ?_;exact⟨by rw[jL,if_pos (show ∀k,k<S.nb -> kr (S.body k).sh from λ t ht=>V9 t (by omega)),if_pos (show sL S rs ds from ⟨h7,h8,h9⟩),if_pos (show ∀k,k<S.nb -> fy (S.body k) S.box from λ t ht=>hvb t (by omega))],rfl⟩
    ·refine ae 6 [] λ _=>aaq [] [] [] (v:=vI 11) (H':=[]) ?_;exact⟨by rw[jL,if_pos (show ∀k,k<S.nb -> kr (S.body k).sh from λ t ht=>V9 t (by omega)),if_neg (show ¬ sL S rs ds from λ h_=>h9 h_.2.2)],rfl⟩
   ·refine ae 12 [] λ _=>aaq [] [] [] (v:=vI 11) (H':=[]) ?_;exact⟨by rw[jL,if_pos (show ∀k,k<S.nb -> kr (S.body k).sh from λ t ht=>V9 t (by omega)),if_neg (show ¬ sL S rs ds from λ h_=>h8 h_.2.1)],rfl⟩
  ·refine ae 18 [] λ _=>aaq [] [] [] (v:=vI 11) (H':=[]) ?_;exact⟨by rw[jL,if_pos (show ∀k,k<S.nb -> kr (S.body k).sh from λ t ht=>V9 t (by omega)),if_neg (show ¬ sL S rs ds from λ h_=>h7 h_.1)],rfl⟩
end Go.Proofs.YtdppjkjbghbnjaaGreatDoor
