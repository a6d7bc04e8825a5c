import Derived.Test.YtdppjkjbghbnjaaGreatDoorC03
set_option maxHeartbeats 4000000
set_option maxRecDepth 100000
set_option linter.all false
namespace Go.Proofs.YtdppjkjbghbnjaaGreatDoor
open IntKind
open Go.RowKit
structure Shp where (r:Int) (poly:List V2) (A:Option Addr) (cap:Nat)
abbrev O8(s:Shp):Value:=.agg #[vI s.r,.slice s.A s.poly.length s.cap]
def jU(l:List V2):Nat -> Nat -> Value:=λ i k=>match k with|0=>vI (l.getD i ⟨0,0⟩).x|_=>vI (l.getD i ⟨0,0⟩).y
inductive ShIn(F:HL):Shp -> Prop
 | circle (r:Int) (A:Option Addr) (cap:Nat):ShIn F ⟨r,[],A,cap⟩
 | poly (r:Int) (l:List V2) (b cap:Nat) (h:(b,.rows 2 cap (jU l) 29 (0,0))∈F) (h3:3 <= l.length) (h4:l.length <= cap) (h5:l.length <= 1000000):ShIn F ⟨r,l,some ⟨b,0,none⟩,cap⟩
theorem ShIn.mono{F F':HL}{s:Shp}(h:ShIn F s)(hs:∀x∈F,x∈F'):ShIn F' s:=by
 cases h with
 | circle r A cap=>exact .circle r A cap
 | poly r l b cap h h3 h4 h5=>exact .poly r l b cap (hs _ h) h3 h4 h5
def jH(s:Shp):Prop:=s.poly=[]
instance (s:Shp):Decidable (jH s):=decidable_of_iff (s.poly.isEmpty=true) (by simp[jH])
def PH(b:Bx)(c:V2):Bx:=⟨if c.x<b.x0 then c.x else b.x0,if c.y<b.y0 then c.y else b.y0,if c.x>b.x1 then c.x else b.x1,if c.y>b.y1 then c.y else b.y1⟩
def mz(pos:V2)(l:List V2):Nat -> Bx
 | 0=>⟨(aD pos (l.getD 0 ⟨0,0⟩)).x,(aD pos (l.getD 0 ⟨0,0⟩)).y,(aD pos (l.getD 0 ⟨0,0⟩)).x,(aD pos (l.getD 0 ⟨0,0⟩)).y⟩
 | k+1=>PH (mz pos l k) (aD pos (l.getD (1+k) ⟨0,0⟩))
def eH(s:Shp)(pos:V2):Bx:=if jH s then ⟨bd (pos.x-s.r),bd (pos.y-s.r),bd (pos.x+s.r),bd (pos.y+s.r)⟩ else mz pos s.poly (s.poly.length-1)
def pH(a b c d:Int):Prop:=a <= d /\ c <= b
instance (a b c d:Int):Decidable (pH a b c d):=inferInstanceAs (Decidable (_ /\ _))
def O9(a b:Bx):Prop:=pH a.x0 a.x1 b.x0 b.x1 /\ pH a.y0 a.y1 b.y0 b.y1
instance (a b:Bx):Decidable (O9 a b):=inferInstanceAs (Decidable (_ /\ _))
theorem oK(r:Int)(A:Option Addr)(n cap:Nat)(F:HL):Sp Tryz.prog 139 #[.agg #[vI r,.slice A n cap]] [] F (λ u H'=>u=.bool (decide ((n:Int)=0)) /\ H'=[]):=by
 refine aau Tryz.func139 rfl mn (A:=[]) (Ts:=[]) rfl λ w0=>?_;refine ae 15 [.own 0] λ n1=>?_;exact aaq [] [] [] ⟨rfl,rfl⟩
theorem iZ(r:Int)(A:Option Addr)(n cap:Nat)(F:HL):Sp Tryz.prog 269 #[.agg #[vI r,.slice A n cap]] [] F (λ u H'=>u=.bool (decide ((n:Int)=0)) /\ H'=[]):=by
 refine aau Tryz.func269 rfl mn (A:=[]) (Ts:=[]) rfl λ w0=>?_;refine ae 15 [.own 0] λ n1=>?_;exact aaq [] [] [] ⟨rfl,rfl⟩
theorem wP(a:Int)(b:Int)(c:Int)(d:Int)  (F:HL):Sp Tryz.prog 266 #[vI a,vI b,vI c,vI d] [] F (λ u H'=>u=.bool (decide (pH a b c d)) /\ H'=[]):=by
 refine aau Tryz.func266 rfl mn (A:=[]) (Ts:=[]) rfl λ w0=>?_;refine ae 11 [] λ _=>aam (a <= d) 12 (λ h1=>?_) λ h1=>?_
 ·refine ae 7 [] λ _=>aaq [] [] [] (v:=.bool (decide (c <= b))) (H':=[]) ?_;exact⟨by simp[pH, *],rfl⟩
 ·refine ae 7 [] λ _=>aaq [] [] [] (v:=.bool false) (H':=[]) ?_;exact⟨by simp[pH, *],rfl⟩
theorem KC(a:Bx)(b:Bx)  (F:HL):Sp Tryz.prog 234 #[.agg #[vI a.x0,vI a.y0,vI a.x1,vI a.y1],.agg #[vI b.x0,vI b.y0,vI b.x1,vI b.y1]] [] F (λ u H'=>u=.bool (decide (O9 a b)) /\ H'=[]):=by
 refine aau Tryz.func234 rfl mn (A:=[]) (Ts:=[]) rfl λ w0=>?_;refine ae 17 [.own 1,.own 1,.own 0,.own 0] λ n1=>aai (wP a.x0 a.x1 b.x0 b.x1  _)<|ae 1 [] λ _=>aam (pH a.x0 a.x1 b.x0 b.x1) 14 (λ h2=>?_) λ h2=>?_
 ·refine ae 8 [.own 1,.own 1,.own 0,.own 0] λ _=>aai (wP a.y0 a.y1 b.y0 b.y1  _)<|ae 4 [] λ _=>aaq [] [] [] (v:=.bool (decide (pH a.y0 a.y1 b.y0 b.y1))) (H':=[]) ?_;exact⟨by simp[O9, *],rfl⟩
 ·refine ae 13 [] λ _=>aaq [] [] [] (v:=.bool false) (H':=[]) ?_;exact⟨by simp[O9, *],rfl⟩
theorem sE(r:Int)(A:Option Addr)(cap:Nat)(pos:V2)(F:HL):Sp Tryz.prog 235 #[.agg #[vI r,.slice A 0 cap],.agg #[vI pos.x,vI pos.y]] [] F (λ u H'=>u=.agg #[vI ((eH ⟨r,[],A,cap⟩ pos).x0),vI ((eH ⟨r,[],A,cap⟩ pos).y0),vI ((eH ⟨r,[],A,cap⟩ pos).x1),vI ((eH ⟨r,[],A,cap⟩ pos).y1)] /\ H'=[]):=by
 refine aau Tryz.func235 rfl mn (A:=[]) (Ts:=[]) rfl λ w0=>?_;refine ae 11 [.own 2,.own 2] λ n1=>aai (oK r A 0 cap _)<|ae 29 [.own 1,.own 2,.own 1,.own 2,.own 1,.own 2,.own 1,.own 2,.own 0,.own 0,.own 0,.own 0] λ _=>?_;exact aaq (aab 4) [] [] ⟨rfl,rfl⟩
theorem wQ(r:Int)(l:List V2)(b cap:Nat)(pos:V2)(F:HL)(hb:(b,.rows 2 cap (jU l) 29 (0,0))∈F)(h3:3 <= l.length)(h4:l.length <= cap)(h5:l.length <= 1000000):Sp Tryz.prog 235 #[.agg #[vI r,vS b 0 l.length cap],.agg #[vI pos.x,vI pos.y]] [] F (λ u H'=>u=.agg #[vI ((eH ⟨r,l,some ⟨b,0,none⟩,cap⟩ pos).x0),vI ((eH ⟨r,l,some ⟨b,0,none⟩,cap⟩ pos).y0),vI ((eH ⟨r,l,some ⟨b,0,none⟩,cap⟩ pos).x1),vI ((eH ⟨r,l,some ⟨b,0,none⟩,cap⟩ pos).y1)] /\ H'=[]):=by
 refine aau Tryz.func235 rfl (mc hb mn) (A:=[]) (Ts:=[]) rfl λ w0=>?_;refine ae 11 [.own 2,.own 2] λ n1=>aai (oK r (some ⟨b,0,none⟩) l.length cap _)<|ae 2 [] λ _=>db 11 (aa9 (show ¬ ((l.length:Int)=0) by omega))<|ae 4 [] λ _=>aal [7] []<|aA [] [0,1,2,3,4] [.own 1,.own 1,.own 2,.ix 0,.rorow 0 0 0,.rorow 0 0 1] [((0+0*2)+1)=0*2+1 /\ 0<cap,(0+0*2)=0*2+0 /\ 0<cap,0=((0:Nat):Int) /\ 0<l.length]<|aac [] 5 (λ X_=>(ez pos (l.getD 0 ⟨0,0⟩)  _))<|aae 6 (aag [] [] λ n2=>?_);refine aae 7 (aag [] (aab 2) λ _=>?_);refine aad<|ai 27 (ow 0 8++[.own 4,.sl 1 l.length false]) [1=((1:Nat):Int) /\ l.length=l.length /\ 1 <= l.length /\ l.length <= cap /\ cap≠1] λ n3=>aao (σ:=Nat) (λ k=>⟨[(3,vP (n1+1) 0),(4,vP (n1+2) 0),(6,vP (n3+0) 0),(50,vS b 2 (l.length-1) (cap-1)),(51,vI (((l.length-1):Nat):Int)),(52,vI (k:Int))],[((n3+0),.lit [vI ((mz pos l k).x0),vI ((mz pos l k).y0),vI ((mz pos l k).x1),vI ((mz pos l k).y1)] 25 (0,0)),((n2+0),.lit [vI ((aD pos (l.getD 0 ⟨0,0⟩)).x),vI ((aD pos (l.getD 0 ⟨0,0⟩)).y)] 29 (0,0)),((n1+2),.lit [vI 0,vI 0,vI 0,vI 0] 25 (0,0)),((n1+1),.lit [vI pos.x,vI pos.y] 29 (0,0)),((n1+0),.lit [vI r,vS b 0 l.length cap] 85 (0,0))],[],k <= l.length-1,l.length-k⟩) 0 [0,1,2,3,4] [] (aaL _) ?_;rintro k hI4 Xu;refine ae 6 [] λ _=>aam ((k:Int)<(((l.length-1):Nat):Int)) 53 (λ h6=>?_) λ h6=>?_
 ·refine ai 17 [.ix k,.rorow 0 (1+k) 0,.rorow 0 (1+k) 1,.own 0,.own 0,.own 4,.own 4,.own 0,.own 0] [((2+k*2)+1)=(1+k)*2+1 /\ (1+k)<cap,(2+k*2)=(1+k)*2+0 /\ (1+k)<cap,(k:Int)=((k:Nat):Int) /\ k<(l.length-1)] λ n7=>aai (ez pos (l.getD (1+k) ⟨0,0⟩)  _)<|ae 5 (aab 2) λ n8=>aal [11,13] [0,1,3,4,5,6]<|ag [0,1,3,4,5,6] [0,2,5,7,1,3,6,8,4,9,10] [.own 2,.own 0,.own 2,.ro 0]<|aae 11 (aag [0,1,3,4,5,6] [.own 2] λ _=>?_);refine ag [0,1,3,4,5,6] [12] []<|aae 13 (aag [0,1,3,4,5,6] [.own 2] λ _=>?_);refine aad<|ae 1 [] λ _=>aal [11,13] [0,1,3,4,5,6]<|ag [0,1,3,4,5,6] [0,2,5,7,1,3,6,8,4,9,10] [.own 2,.own 0,.own 2,.ro 0]<|aae 11 (aag [0,1,3,4,5,6] [.own 2] λ _=>?_);refine ag [0,1,3,4,5,6] [12] []<|aae 13 (aag [0,1,3,4,5,6] [.own 2] λ _=>?_);refine aad<|ai 6 [.nw] [bn ((k:Int)+1)] λ _=>?_;refine Xu (k+1) [2,3,4,5,6] [] ?_
  try dsimp only
  refine⟨by omega,by omega⟩
 ·refine ae 12 [.own 0,.own 0,.own 0,.own 0,.own 2,.own 2,.own 2,.own 2] λ _=>aaq [.own 2,.own 2,.own 2,.own 2] [] [] (v:=.agg #[vI ((mz pos l k).x0),vI ((mz pos l k).y0),vI ((mz pos l k).x1),vI ((mz pos l k).y1)]) (H':=[]) ?_;have ek:k=l.length-1:=by omega
  subst ek;refine⟨?_,rfl⟩;unfold eH;rw[if_neg (by intro e;simp[jH] at e;rw[e] at h3;simp at h3)]
theorem qM(s:Shp)(pos:V2)(F:HL)(h:ShIn F s):Sp Tryz.prog 235 #[O8 s,.agg #[vI pos.x,vI pos.y]] [] F (λ u H'=>u=.agg #[vI (eH s pos).x0,vI (eH s pos).y0,vI (eH s pos).x1,vI (eH s pos).y1] /\ H'=[]):=by
 cases h with
 | circle r A cap=>exact sE r A cap pos F
 | poly r l b cap h h3 h4 h5=>exact wQ r l b cap pos F h h3 h4 h5
structure MemS where
 cs:List Int
 lg:List (Int × Int)
 base:Int
def MemS.get(M:MemS)(i:Int):Int:=if 0 <= i /\ i<M.cs.length then M.cs.getD i.toNat 0 else 0
def MemS.set(M:MemS)(i v:Int):MemS:=if 0 <= i /\ i<M.cs.length then ⟨M.cs.set i.toNat v,M.lg++[(i,M.cs.getD i.toNat 0)],M.base⟩ else M
def aE(cs:List Int):Nat -> Nat -> Value:=λ i k=>match k with|0=>vI (cs.getD i 0)|_=>default
theorem fX{cs:List Int}{i:Nat}(h:i<cs.length)(v:Int):cT (aE cs) i 0 (vI v)=aE (cs.set i v):=by
 funext i' k';unfold cT aE
 by_cases h1:i'=i
 ·subst h1;rcases k' with _|k'
  ·simp[h]
  ·simp
 ·rcases k' with _|k'
  ·have:¬ i=i':=λ e=>h1 e.symm;simp[h1,List.getElem?_set,this]
  ·simp
def i0:Enc (Int × Int):=⟨2,λ p k=>match k with|0=>vI p.1|_=>vI p.2,(0,0)⟩
noncomputable def Mv:TypeInfo:=match Tryz.prog.info? 195 with | some i=>i | none=>⟨.bool,"",0,0,false,0,0,none,false,#[]⟩
noncomputable def Mw:Value:=match Mv.zero with|some z=>z|none=>.bool false
theorem qN:EncOk i0 Tryz.prog 195 Mv Mw where
 info:=by kernel_rfl
 zero:=by kernel_rfl
 size:=by kernel_rfl
 zsize:=by kernel_rfl
 zcell:=λ k hk=>by
  have h:∀k<2,Mw.cells[k]?=some (i0.cell i0.dflt k):=by intro k hk;(iterate 2 (rcases k with _|k;· kernel_rfl));omega
  exact h k hk
 one:=λ x k=>by unfold i0;dsimp only;split <;> rfl
 bytes:=aaJ (by kernel_rfl)
inductive MemH(mb:Nat)(M:MemS)(k:Nat):HL -> Prop
 | mk (cb:Nat) (A:Option Addr) (cap:Nat) (Hl:HL) (hs:SlIs i0 195 M.lg A cap Hl) (hc:M.cs.length <= 1000000) (hl:M.lg.length+k <= 100000000):MemH mb M k (ap [(mb,.lit [vS cb 0 M.cs.length M.cs.length,.slice A M.lg.length cap,vI M.base] 162 (0,0)),(cb,.rows 1 M.cs.length (aE M.cs) 3 (0,0))] [Hl])
theorem MemH.weak{mb:Nat}{M:MemS}{k k':Nat}{T:HL}(h:MemH mb M k T)(hk:k' <= k):MemH mb M k' T:=by
 cases h with
 | mk cb A cap Hl hs hc hl=>exact .mk cb A cap Hl hs hc (by omega)
theorem MemH.cast{mb:Nat}{M M':MemS}{k k':Nat}{T:HL}(h:MemH mb M k T)(e:M'=M)(hk:k' <= k):MemH mb M' k' T:=e ▸ h.weak hk
theorem MemH.put{mb:Nat}{M:MemS}{k:Nat}{i v:Int}{cb:Nat}{A:Option Addr}{cap:Nat}{Hl:HL}(h:0 <= i /\ i<M.cs.length)(hc:M.cs.length <= 1000000)(hl:M.lg.length+(k+1) <= 100000000)(hs:SlIs i0 195 (M.lg++[(i,M.cs.getD i.toNat 0)]) A cap Hl) :
  MemH mb (M.set i v) k (ap [(mb,.lit [vS cb 0 M.cs.length M.cs.length,.slice A (M.lg.length+[(i,M.cs.getD i.toNat 0)].length) cap,vI M.base] 162 (0,0)),(cb,.rows 1 M.cs.length (cT (aE M.cs) i.toNat 0 (vI v)) 3 (0,0))] [Hl]):=by
 have e:M.set i v=⟨M.cs.set i.toNat v,M.lg++[(i,M.cs.getD i.toNat 0)],M.base⟩:=by unfold MemS.set;rw[if_pos h]
 rw[e,fX (by omega)];have:=MemH.mk (M:=⟨M.cs.set i.toNat v,M.lg++[(i,M.cs.getD i.toNat 0)],M.base⟩) (k:=k) cb A cap Hl hs (by simpa using hc) (by simp;omega) (mb:=mb);simpa using this
theorem BW(mb cb n:Nat)(A:Option Addr)(m cap:Nat)(base i:Int)(F:HL)(hm:(mb,.lit [vS cb 0 n n,.slice A m cap,vI base] 162 (0,0))∈F):Sp Tryz.prog 103 #[vP mb 0,vI i] [] F (λ u H'=>u=.bool (decide (0 <= i /\ i<n)) /\ H'=[]):=by
 refine aau Tryz.func103 rfl (mc hm mn) (A:=[]) (Ts:=[]) rfl λ w0=>?_;refine ae 10 [] λ _=>aam (0 <= i) 7 (λ h1=>?_) λ h1=>?_
 ·refine ae 11 [.ro 0] λ _=>aaq [] [] [] (v:=.bool (decide (i<(n:Int)))) (H':=[]) ?_;exact⟨by simp[*],rfl⟩
 ·refine ae 11 [] λ _=>aaq [] [] [] (v:=.bool false) (H':=[]) ?_;exact⟨by simp[*],rfl⟩
theorem KD(mb cb:Nat)(cs:List Int)(A:Option Addr)(m cap:Nat)(base i:Int)(lg:List (Int × Int))(F:HL)(hm:(mb,.lit [vS cb 0 cs.length cs.length,.slice A m cap,vI base] 162 (0,0))∈F)(hc:(cb,.rows 1 cs.length (aE cs) 3 (0,0))∈F)(hn:cs.length <= 1000000):Sp Tryz.prog 78 #[vP mb 0,vI i] [] F (λ u H'=>u=vI (MemS.get ⟨cs,lg,base⟩ i) /\ H'=[]):=by
 refine aau Tryz.func78 rfl (mc hm (mc hc mn)) (A:=[]) (Ts:=[]) rfl λ w0=>?_;refine ae 10 [] λ _=>aai (BW mb cb cs.length A m cap base i _ (au hm))<|ae 3 [] λ _=>aan (0 <= i /\ i<cs.length) 8 (λ h1=>?_) λ h1=>?_
 ·refine ai 15 [.ro 0,.ix ((i).toNat),.rorow 1 ((i).toNat) 0] [(0+((i).toNat)*1)=((i).toNat)*1+0 /\ ((i).toNat)<cs.length,i=(((i).toNat:Nat):Int) /\ (i).toNat<cs.length] λ _=>aaq [] [] [] (v:=vI (cs.getD ((i).toNat) 0)) (H':=[]) ?_;exact⟨by simp[MemS.get, *],rfl⟩
 ·refine ae 6 [] λ _=>aaq [] [] [] (v:=vI 0) (H':=[]) ?_;exact⟨by simp[MemS.get, *],rfl⟩
theorem av{mb:Nat}{M:MemS}{k:Nat}{T:HL}(i:Int){F:HL}(h:MemH mb M k T)(hs:∀x∈T,x∈F):Sp Tryz.prog 78 #[vP mb 0,vI i] [] F (λ u H'=>u=vI (M.get i) /\ H'=[]):=by
 cases h with
 | mk cb A cap Hl UA hc hl=>exact KD mb cb M.cs A M.lg.length cap M.base i M.lg F (hs _ (by simp)) (hs _ (by simp)) hc
theorem jq{mb:Nat}{M:MemS}{k:Nat}{T:HL}(i:Int){c:Int}(e:M.get i=c){F:HL}(h:MemH mb M k T)(hs:∀x∈T,x∈F):Sp Tryz.prog 78 #[vP mb 0,vI i] [] F (λ u H'=>u=vI c /\ H'=[]):=e ▸ av i h hs
theorem KE(mb cb:Nat)(M:MemS)(k:Nat)(A:Option Addr)(cap:Nat)(i v:Int)(Hl:HL)(F:HL)(hs:SlIs i0 195 M.lg A cap Hl)(hc:M.cs.length <= 1000000)(hl:M.lg.length+(k+1) <= 100000000):Sp Tryz.prog 92 #[vP mb 0,vI i,vI v] (ap [(mb,.lit [vS cb 0 M.cs.length M.cs.length,.slice A M.lg.length cap,vI M.base] 162 (0,0)),(cb,.rows 1 M.cs.length (aE M.cs) 3 (0,0))] [Hl]) F (λ u H'=>MemH mb (M.set i v) k H'):=by
 refine aau Tryz.func92 rfl mn (A:=[(mb,.lit [vS cb 0 M.cs.length M.cs.length,.slice A M.lg.length cap,vI M.base] 162 (0,0)),(cb,.rows 1 M.cs.length (aE M.cs) 3 (0,0))]) (Ts:=[Hl]) rfl λ w0=>?_;refine ae 5 [] λ _=>aai (BW mb cb M.cs.length A M.lg.length cap M.base i _ (aw 0))<|ae 3 [] λ _=>aan (0 <= i /\ i<M.cs.length) 9 (λ h1=>?_) λ h1=>?_
 ·refine ae 4 [] λ _=>aal [15,18] []<|aA [] [0,1,5,6,10,2,7,3,8,4,9,11,12,13] [.own 0,.own 0,.ix ((i).toNat),.row 1 ((i).toNat) 0] [(0+((i).toNat)*1)=((i).toNat)*1+0 /\ ((i).toNat)<M.cs.length,i=(((i).toNat:Nat):Int) /\ (i).toNat<M.cs.length]<|aae 14 (aag [] [] λ n3=>?_);refine aae 15 (nM [] qN M.lg [(i,M.cs.getD i.toNat 0)] 0 0 rfl hs (by simp;omega) ?_);rintro A4 c5 T6 ⟨Yz,hz8⟩;refine ag [] [16,17] []<|aae 18 (aag [] [.own 1] λ _=>?_);refine aad<|ai 11 [.own 1,.ix ((i).toNat),.row 2 ((i).toNat) 0] [(0+((i).toNat)*1)=((i).toNat)*1+0 /\ ((i).toNat)<M.cs.length,i=(((i).toNat:Nat):Int) /\ (i).toNat<M.cs.length] λ _=>aaq [] [1,2] [0] (v:=.tuple #[]) (H':=(ap [(mb,.lit [vS cb 0 M.cs.length M.cs.length,.slice A4 (M.lg.length+([(i,M.cs.getD i.toNat 0)]).length) c5,vI M.base] 162 (0,0)),(cb,.rows 1 M.cs.length (cT (aE M.cs) ((i).toNat) 0 (vI v)) 3 (0,0))] [T6])) ?_;exact MemH.put (by omega) hc (by omega) Yz
 ·refine ae 1 [] λ _=>aaq [] [0,1] [0] (v:=.tuple #[]) (H':=(ap [(mb,.lit [vS cb 0 M.cs.length M.cs.length,.slice A M.lg.length cap,vI M.base] 162 (0,0)),(cb,.rows 1 M.cs.length (aE M.cs) 3 (0,0))] [Hl])) ?_;have e:M.set i v=M:=by unfold MemS.set;rw[if_neg (by assumption)]
  rw[e];exact .mk cb A cap Hl hs hc (by omega)
theorem aj{mb:Nat}{M:MemS}{k:Nat}{T:HL}(i v:Int){F:HL}(h:MemH mb M (k+1) T):Sp Tryz.prog 92 #[vP mb 0,vI i,vI v] (ap [] [T]) F (λ u H'=>∃x,H'=ap ((λ _=>[]) x) ((λ x=>[x]) x) /\ MemH mb (M.set i v) k x):=by
 cases h with
 | mk cb A cap Hl UA hc hl =>
  have e:∀T:HL,ap [] [T]=T:=λ T=>by simp
  have:=KE mb cb M k A cap i v Hl F UA hc hl;rw[e];exact this.mono λ u H' h=>⟨H',(e H').symm,h⟩
structure Bod where (sh:Shp) (mot:Mot) (a b:Int)
abbrev dB:Bod:=⟨⟨0,[],none,0⟩,⟨0,0,0,0,0⟩,0,0⟩
def kZ:Enc Bod:=⟨9,λ p k=>match k with|0=>vI p.sh.r|1=>.slice p.sh.A p.sh.poly.length p.sh.cap|2=>vI p.mot.px|3=>vI p.mot.py|4=>vI p.mot.vx|5=>vI p.mot.vy|6=>vI p.mot.inv|7=>vI p.a|_=>vI p.b,dB⟩
noncomputable def Mx:TypeInfo:=match Tryz.prog.info? 90 with | some i=>i | none=>⟨.bool,"",0,0,false,0,0,none,false,#[]⟩
noncomputable def My:Value:=match Mx.zero with|some z=>z|none=>.bool false
theorem uW:EncOk kZ Tryz.prog 90 Mx My where
 info:=by kernel_rfl
 zero:=by kernel_rfl
 size:=by kernel_rfl
 zsize:=by kernel_rfl
 zcell:=λ k hk=>by
  have h:∀k<9,My.cells[k]?=some (kZ.cell kZ.dflt k):=by intro k hk;(iterate 9 (rcases k with _|k;· kernel_rfl));omega
  exact h k hk
 one:=λ x k=>by unfold kZ;dsimp only;split <;> rfl
 bytes:=aaJ (by kernel_rfl)
abbrev je(l:List Bod):Nat -> Nat -> Value:=aL kZ l
structure Setup where
 players:Int
 bb:Nat
 bo:Nat
 nb:Nat
 bc:Nat
 bR:Nat
 bods:List Bod
 box:Bx
 rA:Option Addr
 rn:Nat
 rc:Nat
 dA:Option Addr
 dn:Nat
 dc:Nat
 fog:Int
 g:V2
 push:Int
 drag:Int
 rest:Int
 rounds:Int
 fuel:Int
def Setup.body(S:Setup)(k:Nat):Bod:=S.bods.getD (S.bo+k) dB
structure SetN(S:Setup):Prop where
 pl:0 <= S.players /\ S.players <= 1000000
 nb:S.nb <= 1000000
structure SetIn(F:HL)(S:Setup):Prop extends SetN S where
 blk:(S.bb,.rows 9 S.bR (je S.bods) 90 (0,0))∈F
 room:S.bo+S.nb <= S.bR
 shp:∀k,k<S.nb -> ShIn F (S.body k).sh
theorem SetIn.up{F X:HL}{S:Setup}(h:SetIn F S):SetIn (X++F) S :=
 ⟨h.toSetN,aay _ h.blk,h.room,λ k hk=>(h.shp k hk).mono λ x hx=>aay _ hx⟩
def ah(S:Setup)(k:Int):Int:=if k<0 then -1 else if k >= S.players then -1 else 48+4*k
def af(S:Setup)(k:Int):Int:=if k<0 then -1 else if k >= S.nb then -1 else 48+4*S.players+8*k
def sizeOf(S:Setup):Int:=48+4*S.players+8*S.nb
theorem gL{S:Setup}(h:SetN S)(k:Int):(-1 <= ah S k /\ ah S k <= 1000000000) /\ (ah S k<0 \/ (0 <= k /\ k<S.players)):=by
 have:=h.pl;unfold ah;split
 ·omega
 ·split <;> omega
theorem cP{S:Setup}(h:SetN S)(k:Int):(-1 <= af S k /\ af S k <= 1000000000) /\ (af S k<0 \/ (0 <= k /\ k<S.nb)):=by
 have:=h.pl;have:=h.nb;unfold af;split
 ·omega
 ·split <;> omega
abbrev Setup.v(S:Setup):Value:=.agg #[vI S.players,vS S.bb (S.bo*9) S.nb S.bc,vI S.box.x0,vI S.box.y0,vI S.box.x1,vI S.box.y1,.slice S.rA S.rn S.rc,.slice S.dA S.dn S.dc,vI S.fog,vI S.g.x,vI S.g.y,vI S.push,vI S.drag,vI S.rest,vI S.rounds,vI S.fuel]
abbrev Setup.l(S:Setup):List Value:=[vI S.players,vS S.bb (S.bo*9) S.nb S.bc,vI S.box.x0,vI S.box.y0,vI S.box.x1,vI S.box.y1,.slice S.rA S.rn S.rc,.slice S.dA S.dn S.dc,vI S.fog,vI S.g.x,vI S.g.y,vI S.push,vI S.drag,vI S.rest,vI S.rounds,vI S.fuel]
theorem gM(S:Setup)(k:Int)(F:HL)(hn:SetN S):Sp Tryz.prog 159 #[(Setup.v S),vI k] [] F (λ u H'=>u=vI (ah S k) /\ H'=[]):=by
 have h1:=hn.pl;have h2:=hn.nb;refine aau Tryz.func159 rfl mn (A:=[]) (Ts:=[]) rfl λ w0=>?_;refine ae 12 [] λ n1=>aam (k<0) 7 (λ h2=>?_) λ h2=>?_
 ·refine ae 13 [] λ _=>aaq [] [] [] (v:=vI (-1)) (H':=[]) ?_;refine⟨?_,rfl⟩;simp only[ah,if_pos h2]
 ·refine ae 7 [.own 0] λ _=>aam (k >= S.players) 12 (λ h3=>?_) λ h3=>?_
  ·refine ae 6 [] λ _=>aaq [] [] [] (v:=vI (-1)) (H':=[]) ?_;refine⟨?_,rfl⟩;simp only[ah,if_neg h2,if_pos h3]
  ·refine ai 11 [.nw,.nw] [bn (48+(4*k)),bn (4*k)] λ _=>aaq [] [] [] (v:=vI (48+(4*k))) (H':=[]) ?_;refine⟨?_,rfl⟩;simp only[ah,if_neg h2,if_neg h3]
theorem cQ(S:Setup)(k:Int)(F:HL)(hn:SetN S):Sp Tryz.prog 118 #[(Setup.v S),vI k] [] F (λ u H'=>u=vI (af S k) /\ H'=[]):=by
 have h1:=hn.pl;have h2:=hn.nb;refine aau Tryz.func118 rfl mn (A:=[]) (Ts:=[]) rfl λ w0=>?_;refine ae 12 [] λ n1=>aam (k<0) 7 (λ h2=>?_) λ h2=>?_
 ·refine ae 14 [] λ _=>aaq [] [] [] (v:=vI (-1)) (H':=[]) ?_;refine⟨?_,rfl⟩;simp only[af,if_pos h2]
 ·refine ae 8 [.own 0] λ _=>aam (k >= (S.nb:Int)) 13 (λ h3=>?_) λ h3=>?_
  ·refine ae 6 [] λ _=>aaq [] [] [] (v:=vI (-1)) (H':=[]) ?_;refine⟨?_,rfl⟩;simp only[af,if_neg h2,if_pos h3]
  ·refine ai 15 [.own 0,.nw,.nw,.nw,.nw] [bn ((48+(4*S.players))+(8*k)),bn (8*k),bn (48+(4*S.players)),bn (4*S.players)] λ _=>aaq [] [] [] (v:=vI ((48+(4*S.players))+(8*k))) (H':=[]) ?_;refine⟨?_,rfl⟩;simp only[af,if_neg h2,if_neg h3]
theorem Dz(S:Setup)(F:HL)(hn:SetN S):Sp Tryz.prog 117 #[(Setup.v S)] [] F (λ u H'=>u=vI (sizeOf S) /\ H'=[]):=by
 have h1:=hn.pl;have h2:=hn.nb;refine aau Tryz.func117 rfl mn (A:=[]) (Ts:=[]) rfl λ w0=>?_;refine ai 20 [.own 0,.nw,.nw,.own 0,.nw,.nw] [bn ((48+(4*S.players))+(8*(S.nb:Int))),bn (8*(S.nb:Int)),bn (48+(4*S.players)),bn (4*S.players)] λ n1=>?_;exact aaq [] [] [] ⟨rfl,rfl⟩
structure Inp where (dx dy act:Int)
abbrev dI:Inp:=⟨0,0,0⟩
structure Ins where (op n:Int)
abbrev dIns:Ins:=⟨0,0⟩
structure Eff where (t i k v:Int)
abbrev aaa(x:Eff):List Value:=[vI x.t,vI x.i,vI x.k,vI x.v]
abbrev bB:Eff:=⟨0,0,0,0⟩
def cL:Enc Inp:=⟨3,λ p k=>match k with|0=>vI p.dx|1=>vI p.dy|_=>vI p.act,dI⟩
noncomputable def Mz:TypeInfo:=match Tryz.prog.info? 40 with | some i=>i | none=>⟨.bool,"",0,0,false,0,0,none,false,#[]⟩
noncomputable def MA:Value:=match Mz.zero with|some z=>z|none=>.bool false
theorem oL:EncOk cL Tryz.prog 40 Mz MA where
 info:=by kernel_rfl
 zero:=by kernel_rfl
 size:=by kernel_rfl
 zsize:=by kernel_rfl
 zcell:=λ k hk=>by
  have h:∀k<3,MA.cells[k]?=some (cL.cell cL.dflt k):=by intro k hk;(iterate 3 (rcases k with _|k;· kernel_rfl));omega
  exact h k hk
 one:=λ x k=>by unfold cL;dsimp only;split <;> rfl
 bytes:=aaJ (by kernel_rfl)
abbrev js(l:List Inp):Nat -> Nat -> Value:=aL cL l
structure Stp where
 S:Setup
 cA:Option Addr
 cn:Nat
 cc:Nat
 e0:Int
 e1:Int
 e2:Int
 version:Int
 ib:Nat
 io:Nat
 ni:Nat
 ic:Nat
 iR:Nat
 ins:List Inp
 i:Int
 j:Int
 ended:Bool
 f0:Int
 f1:Int
 f2:Int
 f3:Int
 emitted:Bool
 code:List Ins
def Stp.inp(t:Stp)(k:Nat):Inp:=t.ins.getD (t.io+k) dI
def movP(S:Setup)(k:Int):Prop:=(0 <= k /\ k<S.nb) /\ (S.body k.toNat).mot.inv>0
instance (S:Setup) (k:Int):Decidable (movP S k):=inferInstanceAs (Decidable (_ /\ _))
theorem movP.has{S:Setup}{k:Int}(h:movP S k):0 <= k /\ k<S.nb:=h.1
def ao(S:Setup)(M:MemS)(k:Int):Mot:=⟨M.get (af S k+0),M.get (af S k+1),M.get (af S k+2),M.get (af S k+3),(S.body k.toNat).mot.inv⟩
def aM(t:Stp)(ph j:Int)(M:MemS):MemS:=((M.set 1 ph).set 2 0).set 3 j
def dq(t:Stp)(k:Int)(m:Mot)(M:MemS):MemS:=(((M.set (af t.S k+0) m.px).set (af t.S k+1) m.py).set (af t.S k+2) m.vx).set (af t.S k+3) m.vy
def dR(t:Stp)(c sp pos lo hi:Int)(M:MemS):MemS:=if aF pos lo hi=pos then M.set c (aF pos lo hi) else (M.set c (aF pos lo hi)).set sp (bd (0-gj ((M.set c (aF pos lo hi)).get sp) t.S.rest))
def bj(t:Stp)(M:MemS):MemS:=if t.i=0 then (M.set 13 t.version).set 11 0 else M
def bx(t:Stp)(M:MemS):MemS:=if ah t.S t.i >= 0 then if t.i<t.ni then ((M.set (ah t.S t.i+0) (t.inp t.i.toNat).dx).set (ah t.S t.i+1) (t.inp t.i.toNat).dy).set (ah t.S t.i+2) (t.inp t.i.toNat).act else M else M
def bL(t:Stp)(M:MemS):MemS:=if bd (t.i+1)<t.S.players then M.set 2 (bd (t.i+1)) else aM t 1 0 M
def aR(t:Stp)(M:MemS):MemS:=bL t (bx t (bj t M))
abbrev Stp.l(t:Stp)(mb:Nat):List Value:=[.iface 113 (vP mb 0),vI t.S.players,vS t.S.bb (t.S.bo*9) t.S.nb t.S.bc,vI t.S.box.x0,vI t.S.box.y0,vI t.S.box.x1,vI t.S.box.y1,.slice t.S.rA t.S.rn t.S.rc,.slice t.S.dA t.S.dn t.S.dc,vI t.S.fog,vI t.S.g.x,vI t.S.g.y,vI t.S.push,vI t.S.drag,vI t.S.rest,vI t.S.rounds,vI t.S.fuel,.slice t.cA t.cn t.cc,vI t.e0,vI t.e1,vI t.e2,vI t.version,vS t.ib (t.io*3) t.ni t.ic,vI t.i,vI t.j,.bool t.ended,vI t.f0,vI t.f1,vI t.f2,vI t.f3,.bool t.emitted]
abbrev Stp.lp(t:Stp)(mb:Nat):List Value:=[.iface 113 (vP mb 0),vI t.S.players,vS t.S.bb (t.S.bo*9) t.S.nb t.S.bc,vI t.S.box.x0,vI t.S.box.y0,vI t.S.box.x1,vI t.S.box.y1,.slice t.S.rA t.S.rn t.S.rc,.slice t.S.dA t.S.dn t.S.dc,vI t.S.fog,vI t.S.g.x,vI t.S.g.y,vI t.S.push,vI t.S.drag,vI t.S.rest,vI t.S.rounds,vI t.S.fuel,.slice t.cA t.cn t.cc,vI t.e0,vI t.e1,vI t.e2,vI t.version,vS t.ib (t.io*3) t.ni t.ic,vI t.i,vI t.j,.bool t.ended]
theorem qn(t:Stp)(k:Int)(tb mb:Nat)(F:HL)(hb:(tb,.lit (Stp.l t mb) 238 (0,0))∈F):Sp Tryz.prog 170 #[vP tb 0,vI k] [] F (λ u H'=>u=.bool (decide (0 <= k /\ k<t.S.nb)) /\ H'=[]):=by
 refine aau Tryz.func170 rfl (mc hb mn) (A:=[]) (Ts:=[]) rfl λ w0=>?_;refine ae 10 [] λ _=>aam (k >= 0) 7 (λ h1=>?_) λ h1=>?_
 ·refine ae 12 [.ro 0] λ _=>aaq [] [] [] (v:=.bool (decide (k<(t.S.nb:Int)))) (H':=[]) ?_;exact⟨by simp[*],rfl⟩
 ·refine ae 12 [] λ _=>aaq [] [] [] (v:=.bool false) (H':=[]) ?_;exact⟨by simp[*],rfl⟩
theorem ju(t:Stp)(k:Int)(tb mb:Nat)(F:HL)(hb:(tb,.lit (Stp.l t mb) 238 (0,0))∈F)(hS:SetIn F t.S):Sp Tryz.prog 163 #[vP tb 0,vI k] [] F (λ u H'=>u=.bool (decide (movP t.S k)) /\ H'=[]):=by
 have hn:=hS.nb;have hr:=hS.room;refine aau Tryz.func163 rfl (mc hb (mc hS.blk mn)) (A:=[]) (Ts:=[]) rfl λ w0=>?_;refine ae 9 [] λ _=>aai (qn t k tb mb _ (aay _ hb))<|ae 1 [] λ _=>aam (0 <= k /\ k<t.S.nb) 8 (λ h1=>?_) λ h1=>?_
 ·refine ai 15 [.ro 0,.ix ((k).toNat),.rorow 1 (t.S.bo+((k).toNat)) 6] [((t.S.bo*9+((k).toNat)*9)+6)=(t.S.bo+((k).toNat))*9+6 /\ (t.S.bo+((k).toNat))<t.S.bR,k=(((k).toNat:Nat):Int) /\ (k).toNat<t.S.nb] λ _=>aaq [] [] [] (v:=.bool (decide ((t.S.bods.getD (t.S.bo+((k).toNat)) dB).mot.inv>0))) (H':=[]) ?_;refine⟨?_,rfl⟩;simp[movP,Setup.body, *]
 ·refine ae 15 [] λ _=>aaq [] [] [] (v:=.bool false) (H':=[]) ?_;refine⟨?_,rfl⟩;simp[movP,Setup.body, *]
theorem fH(t:Stp)(i:Int)(tb mb:Nat)(M:MemS)(k:Nat)(T F:HL)(hb:(tb,.lit (Stp.l t mb) 238 (0,0))∈F)(hS:SetIn F t.S)(hM:MemH mb M k T)(hT:∀x∈T,x∈F)(hi:0 <= i /\ i<t.S.nb):Sp Tryz.prog 164 #[vP tb 0,vI i] [] F (λ u H'=>u=.agg #[vI ((ao t.S M i).px),vI ((ao t.S M i).py),vI ((ao t.S M i).vx),vI ((ao t.S M i).vy),vI ((ao t.S M i).inv)] /\ H'=[]):=by
 have hp:=hS.pl;have hn:=hS.nb;have hr:=hS.room;refine aau Tryz.func164 rfl (mc hb (mc hS.blk mn)) (A:=[]) (Ts:=[]) rfl λ w0=>?_;refine ae 12 [.ro 0,.ro 0,.ro 0,.ro 0,.ro 0,.ro 0,.ro 0,.ro 0,.ro 0,.ro 0,.ro 0,.ro 0,.ro 0,.ro 0,.ro 0,.ro 0] λ n1=>aai (cQ t.S i _ hS.toSetN) ?_;have We:=cP hS.toSetN i;refine ae 4 [] λ _=>aal [41] []<|aA [] [0,4,7,11,15,19,22,26,30,35,1,5,8,12,16,20,23,27,31,2,9,17,24,32,3,10,18,25,33,34,36,37,38,39] [.nw,.nw,.nw,.nw,.ro 0,.ro 0,.ro 0,.ro 0,.ro 0,.ix ((i).toNat),.rorow 1 (t.S.bo+((i).toNat)) 6] [((t.S.bo*9+((i).toNat)*9)+6)=(t.S.bo+((i).toNat))*9+6 /\ (t.S.bo+((i).toNat))<t.S.bR,i=(((i).toNat:Nat):Int) /\ (i).toNat<t.S.nb,bn ((af t.S i)+3),bn ((af t.S i)+2),bn ((af t.S i)+1),bn ((af t.S i)+0)]<|aac [] 6 (λ X_=>(av ((af t.S i)+0) hM (λ x hx=>aay _ (aay _ (hT x hx)))))<|aac [] 13 (λ X_=>(av ((af t.S i)+1) hM (λ x hx=>aay _ (aay _ (hT x hx)))))<|ag [] [14] []<|aac [] 21 (λ X_=>(av ((af t.S i)+2) hM (λ x hx=>aay _ (aay _ (hT x hx)))))<|aac [] 28 (λ X_=>(av ((af t.S i)+3) hM (λ x hx=>aay _ (aay _ (hT x hx)))))<|ag [] [29,40] []<|aae 41 (aag [] (ow 0 5) λ _=>?_);refine aad<|ae 1 [] λ _=>?_;exact aaq (ow 0 5) [] [] ⟨rfl,rfl⟩
theorem bP(t:Stp)(ph:Int)(j:Int)(tb mb:Nat)(M:MemS)(k:Nat)(T F:HL)(hM:MemH mb M (k+3) T)(hS:SetIn F t.S) :Sp Tryz.prog 160 #[vP tb 0,vI ph,vI j] (ap [(tb,.lit (Stp.l t mb) 238 (0,0))] [T]) F (λ u H'=>∃x,H'=ap [(tb,.lit (Stp.l t mb) 238 (0,0))] [x] /\ (MemH mb (aM t ph j M) k x)):=by
 have hp:=hS.pl;have hn:=hS.nb;have hr:=hS.room;refine aau Tryz.func160 rfl (mc hS.blk mn) (A:=[(tb,.lit (Stp.l t mb) 238 (0,0))]) (Ts:=[T]) rfl λ w0=>?_;refine ae 7 [.own 0] λ _=>aaj [] [0] (aj 1 ph hM) ?_;rintro _ T1 XC;refine ae 8 [.own 0] λ _=>aaj [] [0] (aj 2 0 XC) ?_;rintro _ T3 Is;refine ae 8 [.own 0] λ _=>aaj [] [0] (aj 3 j Is) ?_;rintro _ T5 SM;refine ae 1 [] λ _=>aaq [] [0] [0] (v:=.tuple #[]) (H':=(ap [(tb,.lit (Stp.l t mb) 238 (0,0))] [T5])) ?_;refine⟨T5,rfl,?_⟩;have e:(aM t ph j M)=(((M.set 1 ph).set 2 0).set 3 j):=by
  first|(simp only[aM];try rfl;done)|rfl
 rw[e];exact SM.weak (by omega)
theorem mA(t:Stp)(i:Int)(m:Mot)(tb mb:Nat)(M:MemS)(k:Nat)(T F:HL)(hM:MemH mb M (k+4) T)(hS:SetIn F t.S) :Sp Tryz.prog 212 #[vP tb 0,vI i,.agg #[vI m.px,vI m.py,vI m.vx,vI m.vy,vI m.inv]] (ap [(tb,.lit (Stp.l t mb) 238 (0,0))] [T]) F (λ u H'=>∃x,H'=ap [(tb,.lit (Stp.l t mb) 238 (0,0))] [x] /\ (MemH mb (dq t i m M) k x)):=by
 have hp:=hS.pl;have hn:=hS.nb;have hr:=hS.room;refine aau Tryz.func212 rfl (mc hS.blk mn) (A:=[(tb,.lit (Stp.l t mb) 238 (0,0))]) (Ts:=[T]) rfl λ w0=>?_;refine ae 12 (ow 1 16) λ n1=>aai (cQ t.S i _ hS.toSetN) ?_;have We:=cP hS.toSetN i;refine ae 4 [] λ _=>aal [9] []<|aA [] [0,4,6,1,5,7,2,8,3] [.nw,.own 0,.own 1] [bn ((af t.S i)+0)]<|aae 9 (aaf [] [] [0] (aj ((af t.S i)+0) m.px hM) ?_);rintro _ T3 Is;refine aad<|ae 2 [] λ _=>aal [9] []<|aA [] [0,4,6,1,5,7,2,8,3] [.nw,.own 0,.own 1] [bn ((af t.S i)+1)]<|aae 9 (aaf [] [] [0] (aj ((af t.S i)+1) m.py Is) ?_);rintro _ T5 SM;refine aad<|ae 2 [] λ _=>aal [9] []<|aA [] [0,4,6,1,5,7,2,8,3] [.nw,.own 0,.own 1] [bn ((af t.S i)+2)]<|aae 9 (aaf [] [] [0] (aj ((af t.S i)+2) m.vx SM) ?_);rintro _ T7 Ug;refine aad<|ae 1 [] λ _=>aal [9] []<|aA [] [0,4,6,1,5,7,2,8,3] [.nw,.own 0,.own 1] [bn ((af t.S i)+3)]<|aae 9 (aaf [] [] [0] (aj ((af t.S i)+3) m.vy Ug) ?_);rintro _ T9 Tt;refine aad<|aaq [] [1] [0] (v:=.tuple #[]) (H':=(ap [(tb,.lit (Stp.l t mb) 238 (0,0))] [T9])) ?_;refine⟨T9,rfl,?_⟩;have e:(dq t i m M)=((((M.set ((af t.S i)+0) m.px).set ((af t.S i)+1) m.py).set ((af t.S i)+2) m.vx).set ((af t.S i)+3) m.vy):=by
  first|(simp only[dq];try rfl;done)|rfl
 rw[e];exact Tt.weak (by omega)
theorem th(t:Stp)(c:Int)(s:Int)(pos:Int)(lo:Int)(hi:Int)(tb mb:Nat)(M:MemS)(k:Nat)(T F:HL)(hM:MemH mb M (k+2) T)(hS:SetIn F t.S) :Sp Tryz.prog 215 #[vP tb 0,vI c,vI s,vI pos,vI lo,vI hi] (ap [(tb,.lit (Stp.l t mb) 238 (0,0))] [T]) F (λ u H'=>∃x,H'=ap [(tb,.lit (Stp.l t mb) 238 (0,0))] [x] /\ (MemH mb (dR t c s pos lo hi M) k x)):=by
 have hp:=hS.pl;have hn:=hS.nb;have hr:=hS.room;refine aau Tryz.func215 rfl (mc hS.blk mn) (A:=[(tb,.lit (Stp.l t mb) 238 (0,0))]) (Ts:=[T]) rfl λ w0=>?_;refine ae 5 [] λ _=>aai (cD pos lo hi  _)<|ae 11 [.own 0] λ _=>aaj [] [0] (aj c (aF pos lo hi) hM) ?_;rintro _ T1 XC;refine ae 9 [] λ _=>aan (aF pos lo hi=pos) 26 (λ h3=>?_) λ h3=>?_
 ·refine ae 2 [] λ _=>aaq [] [0] [0] (v:=.tuple #[]) (H':=(ap [(tb,.lit (Stp.l t mb) 238 (0,0))] [T1])) ?_;refine⟨T1,rfl,?_⟩;have e:(dR t c s pos lo hi M)=(M.set c (aF pos lo hi)):=by
   first|(simp only[dR,if_pos h3];try rfl;done)|rfl
  rw[e];exact XC.weak (by omega)
 ·refine ae 1 [] λ _=>aal [20] []<|ag [] [0,4,5,9,11,1,6,12,2,7,13,3,8,14,15,18,19] (aab 3)<|aac [] 10 (λ X_=>(av s XC (aO 0)))<|aac [] 16 (λ X_=>(nQ ((M.set c (aF pos lo hi)).get s) t.S.rest  _))<|ag [] [17] []<|aae 20 (aaf [] [] [0] (aj s (i64.wrap (0-(gj ((M.set c (aF pos lo hi)).get s) t.S.rest))) XC) ?_);rintro _ T4 UG;refine aad<|aaq [] [0] [0] (v:=.tuple #[]) (H':=(ap [(tb,.lit (Stp.l t mb) 238 (0,0))] [T4])) ?_;refine⟨T4,rfl,?_⟩;have e:(dR t c s pos lo hi M)=((M.set c (aF pos lo hi)).set s (i64.wrap (0-(gj ((M.set c (aF pos lo hi)).get s) t.S.rest)))):=by
   first|(simp only[dR,if_neg h3];try rfl;done)|rfl
  rw[e];exact UG.weak (by omega)
theorem DA(t:Stp)  (tb mb:Nat) (M:MemS) (k:Nat) (T F:HL) (hM:MemH mb M (k+8) T) (hS:SetIn F t.S) (hI:(t.ib,.rows 3 t.iR (js t.ins) 40 (0,0))∈F) (hir:t.io+t.ni <= t.iR /\ t.ni <= 1000000):Sp Tryz.prog 131 #[vP tb 0] (ap [(tb,.lit (Stp.l t mb) 238 (0,0))] [T]) F (λ u H'=>∃x,H'=ap [(tb,.lit (Stp.l t mb) 238 (0,0))] [x] /\ (MemH mb (aR t M) k x)):=by
 have hp:=hS.pl;have hn:=hS.nb;have hr:=hS.room;refine aau Tryz.func131 rfl (mc hS.blk (mc hI mn)) (A:=[(tb,.lit (Stp.l t mb) 238 (0,0))]) (Ts:=[T]) rfl λ w0=>?_;refine ae 10 [.own 0] λ _=>aam (t.i=0) 8 (λ h1=>?_) λ h1=>?_
 ·refine ae 2 [] λ _=>aal [10] []<|ag [] [0,4,1,5,2,6,3,7,8,9] (aab 2)<|aae 10 (aaf [] [] [0] (aj 13 t.version hM) ?_);rintro _ T2 TT;refine aad<|ae 6 [.own 0] λ _=>aaj [] [0] (aj 11 0 TT) ?_;rintro _ T4 UG;refine ae 4 [] λ _=>aal [] []<|ag [] [0,4,1,5,2,6,3,7] (ow 0 17)<|aac [] 8 (λ X_=>(gM t.S t.i _ hS.toSetN)) ?_;have hb6:=gL hS.toSetN t.i;refine ag [] [9] []<|aad<|ae 2 [] λ _=>aal [] []<|ag [] [0,1,2] []<|RD.em (ah t.S t.i >= 0) 36 (λ h7=>?_) λ h7=>?_
  ·refine ag [] [3,7,4,8,5,9,6,10,11,12,13] (aab 2)<|aad<|ae 1 [] λ _=>aam (t.i<(t.ni:Int)) 47 (λ h8=>?_) λ h8=>?_
   ·refine ae 2 [] λ _=>aal [11] []<|aA [] [0,4,1,5,2,6,3,7,8,9] [.own 0,.own 0,.ix ((t.i).toNat),.rorow 1 (t.io+((t.i).toNat)) 0,.rorow 1 (t.io+((t.i).toNat)) 1,.rorow 1 (t.io+((t.i).toNat)) 2] [((t.io*3+((t.i).toNat)*3)+2)=(t.io+((t.i).toNat))*3+2 /\ (t.io+((t.i).toNat))<t.iR,((t.io*3+((t.i).toNat)*3)+1)=(t.io+((t.i).toNat))*3+1 /\ (t.io+((t.i).toNat))<t.iR,(t.io*3+((t.i).toNat)*3)=(t.io+((t.i).toNat))*3+0 /\ (t.io+((t.i).toNat))<t.iR,t.i=(((t.i).toNat:Nat):Int) /\ (t.i).toNat<t.ni]<|aae 10 (aag [] [] λ n9=>?_);refine aae 11 (aag [] (aab 3) λ _=>?_);refine aad<|ae 2 [] λ _=>aal [8] []<|aA [] [0,4,6,1,5,7,2,3] [.nw,.own 0,.own 1] [bn ((ah t.S t.i)+0)]<|aae 8 (aaf [] [] [0] (aj ((ah t.S t.i)+0) ((t.ins.getD (t.io+((t.i).toNat)) dI).dx) UG) ?_);rintro _ Ui SN;refine aad<|ae 2 [] λ _=>aal [8] []<|aA [] [0,4,6,1,5,7,2,3] [.nw,.own 0,.own 1] [bn ((ah t.S t.i)+1)]<|aae 8 (aaf [] [] [0] (aj ((ah t.S t.i)+1) ((t.ins.getD (t.io+((t.i).toNat)) dI).dy) SN) ?_);rintro _ Yo Xg;refine aad<|ae 1 [] λ _=>aal [8] []<|aA [] [0,4,6,1,5,7,2,3] [.nw,.own 0,.own 1] [bn ((ah t.S t.i)+2)]<|aae 8 (aaf [] [] [0] (aj ((ah t.S t.i)+2) ((t.ins.getD (t.io+((t.i).toNat)) dI).act) Xg) ?_);rintro _ T14 Vx;refine aad<|ae 2 [] λ _=>aal [] []<|ag [] [0,5,1,6,2,7,3,8,4,9,10] [.own 1,.own 1]<|aad<|ae 1 [] λ _=>aam (i64.wrap (t.i+1)<t.S.players) 95 (λ SY=>?_) λ SY=>?_
    ·refine ae 1 [] λ _=>aal [11] []<|ag [] [0,4,1,5,2,6,3,7,8,9,10] [.own 1,.own 1]<|aae 11 (aaf [] [] [0] (aj 2 (i64.wrap (t.i+1)) Vx) ?_);rintro _ TA Ux;refine aad<|aaq [] [1] [0] (v:=.tuple #[]) (H':=(ap [(tb,.lit (Stp.l t mb) 238 (0,0))] [TA])) ?_;refine⟨TA,rfl,?_⟩;have e:(aR t M)=((((((M.set 13 t.version).set 11 0).set ((ah t.S t.i)+0) ((t.ins.getD (t.io+((t.i).toNat)) dI).dx)).set ((ah t.S t.i)+1) ((t.ins.getD (t.io+((t.i).toNat)) dI).dy)).set ((ah t.S t.i)+2) ((t.ins.getD (t.io+((t.i).toNat)) dI).act)).set 2 (i64.wrap (t.i+1))):=by
      first|(simp only[aR,bj,bx,bL,Stp.inp,if_pos h1,if_pos h7,if_pos h8,if_pos SY];try rfl;done)|rfl
     rw[e];exact Ux.weak (by omega)
    ·refine ae 3 [] λ _=>aaj [1] [0] (bP t 1 0 tb mb (((((M.set 13 t.version).set 11 0).set ((ah t.S t.i)+0) ((t.ins.getD (t.io+((t.i).toNat)) dI).dx)).set ((ah t.S t.i)+1) ((t.ins.getD (t.io+((t.i).toNat)) dI).dy)).set ((ah t.S t.i)+2) ((t.ins.getD (t.io+((t.i).toNat)) dI).act)) k T14 _ Vx hS.up ) ?_;rintro _ VB Xe;refine ae 1 [] λ _=>aaq [] [0] [0] (v:=.tuple #[]) (H':=(ap [(tb,.lit (Stp.l t mb) 238 (0,0))] [VB])) ?_;refine⟨VB,rfl,?_⟩;have e:(aR t M)=(aM t 1 0 (((((M.set 13 t.version).set 11 0).set ((ah t.S t.i)+0) ((t.ins.getD (t.io+((t.i).toNat)) dI).dx)).set ((ah t.S t.i)+1) ((t.ins.getD (t.io+((t.i).toNat)) dI).dy)).set ((ah t.S t.i)+2) ((t.ins.getD (t.io+((t.i).toNat)) dI).act))):=by
      first|(simp only[aR,bj,bx,bL,Stp.inp,if_pos h1,if_pos h7,if_pos h8,if_neg SY];try rfl;done)|rfl
     rw[e];exact Xe.weak (by omega)
   ·refine ae 4 [] λ _=>aal [] []<|ag [] [0,5,1,6,2,7,3,8,4,9,10] (aab 2)<|aad<|ae 1 [] λ _=>aam (i64.wrap (t.i+1)<t.S.players) 95 (λ h21=>?_) λ h21=>?_
    ·refine ae 1 [] λ _=>aal [11] []<|ag [] [0,4,1,5,2,6,3,7,8,9,10] (aab 2)<|aae 11 (aaf [] [] [0] (aj 2 (i64.wrap (t.i+1)) UG) ?_);rintro _ Y6 Xc;refine aad<|aaq [] [0] [0] (v:=.tuple #[]) (H':=(ap [(tb,.lit (Stp.l t mb) 238 (0,0))] [Y6])) ?_;refine⟨Y6,rfl,?_⟩;have e:(aR t M)=(((M.set 13 t.version).set 11 0).set 2 (i64.wrap (t.i+1))):=by
      first|(simp only[aR,bj,bx,bL,Stp.inp,if_pos h1,if_pos h7,if_neg h8,if_pos h21];try rfl;done)|rfl
     rw[e];exact Xc.weak (by omega)
    ·refine ae 3 [] λ _=>aaj [0] [0] (bP t 1 0 tb mb ((M.set 13 t.version).set 11 0) (k+3) T4 _ UG hS.up ) ?_;rintro _ Y1 Xb;refine ae 1 [] λ _=>aaq [] [0] [0] (v:=.tuple #[]) (H':=(ap [(tb,.lit (Stp.l t mb) 238 (0,0))] [Y1])) ?_;refine⟨Y1,rfl,?_⟩;have e:(aR t M)=(aM t 1 0 ((M.set 13 t.version).set 11 0)):=by
      first|(simp only[aR,bj,bx,bL,Stp.inp,if_pos h1,if_pos h7,if_neg h8,if_neg h21];try rfl;done)|rfl
     rw[e];exact Xb.weak (by omega)
  ·refine ag [] [3,7,4,8,5,9,6,10,11,12,13] []<|aad<|ae 5 [] λ _=>aal [] []<|ag [] [0,5,1,6,2,7,3,8,4,9,10] (aab 2)<|aad<|ae 1 [] λ _=>aam (i64.wrap (t.i+1)<t.S.players) 95 (λ S8=>?_) λ S8=>?_
   ·refine ae 1 [] λ _=>aal [11] []<|ag [] [0,4,1,5,2,6,3,7,8,9,10] (aab 2)<|aae 11 (aaf [] [] [0] (aj 2 (i64.wrap (t.i+1)) UG) ?_);rintro _ VM TU;refine aad<|aaq [] [0] [0] (v:=.tuple #[]) (H':=(ap [(tb,.lit (Stp.l t mb) 238 (0,0))] [VM])) ?_;refine⟨VM,rfl,?_⟩;have e:(aR t M)=(((M.set 13 t.version).set 11 0).set 2 (i64.wrap (t.i+1))):=by
     first|(simp only[aR,bj,bx,bL,Stp.inp,if_pos h1,if_neg h7,if_pos S8];try rfl;done)|rfl
    rw[e];exact TU.weak (by omega)
   ·refine ae 3 [] λ _=>aaj [0] [0] (bP t 1 0 tb mb ((M.set 13 t.version).set 11 0) (k+3) T4 _ UG hS.up ) ?_;rintro _ XF TQ;refine ae 1 [] λ _=>aaq [] [0] [0] (v:=.tuple #[]) (H':=(ap [(tb,.lit (Stp.l t mb) 238 (0,0))] [XF])) ?_;refine⟨XF,rfl,?_⟩;have e:(aR t M)=(aM t 1 0 ((M.set 13 t.version).set 11 0)):=by
     first|(simp only[aR,bj,bx,bL,Stp.inp,if_pos h1,if_neg h7,if_neg S8];try rfl;done)|rfl
    rw[e];exact TQ.weak (by omega)
 ·refine ae 5 [] λ _=>aal [] []<|ag [] [0,4,1,5,2,6,3,7] (ow 0 17)<|aac [] 8 (λ X_=>(gM t.S t.i _ hS.toSetN)) ?_;have alx:=gL hS.toSetN t.i;refine ag [] [9] []<|aad<|ae 2 [] λ _=>aal [] []<|ag [] [0,1,2] []<|RD.em (ah t.S t.i >= 0) 36 (λ Yl=>?_) λ Yl=>?_
  ·refine ag [] [3,7,4,8,5,9,6,10,11,12,13] (aab 2)<|aad<|ae 1 [] λ _=>aam (t.i<(t.ni:Int)) 47 (λ h33=>?_) λ h33=>?_
   ·refine ae 2 [] λ _=>aal [11] []<|aA [] [0,4,1,5,2,6,3,7,8,9] [.own 0,.own 0,.ix ((t.i).toNat),.rorow 1 (t.io+((t.i).toNat)) 0,.rorow 1 (t.io+((t.i).toNat)) 1,.rorow 1 (t.io+((t.i).toNat)) 2] [((t.io*3+((t.i).toNat)*3)+2)=(t.io+((t.i).toNat))*3+2 /\ (t.io+((t.i).toNat))<t.iR,((t.io*3+((t.i).toNat)*3)+1)=(t.io+((t.i).toNat))*3+1 /\ (t.io+((t.i).toNat))<t.iR,(t.io*3+((t.i).toNat)*3)=(t.io+((t.i).toNat))*3+0 /\ (t.io+((t.i).toNat))<t.iR,t.i=(((t.i).toNat:Nat):Int) /\ (t.i).toNat<t.ni]<|aae 10 (aag [] [] λ n34=>?_);refine aae 11 (aag [] (aab 3) λ _=>?_);refine aad<|ae 2 [] λ _=>aal [8] []<|aA [] [0,4,6,1,5,7,2,3] [.nw,.own 0,.own 1] [bn ((ah t.S t.i)+0)]<|aae 8 (aaf [] [] [0] (aj ((ah t.S t.i)+0) ((t.ins.getD (t.io+((t.i).toNat)) dI).dx) hM) ?_);rintro _ T35 Xa;refine aad<|ae 2 [] λ _=>aal [8] []<|aA [] [0,4,6,1,5,7,2,3] [.nw,.own 0,.own 1] [bn ((ah t.S t.i)+1)]<|aae 8 (aaf [] [] [0] (aj ((ah t.S t.i)+1) ((t.ins.getD (t.io+((t.i).toNat)) dI).dy) Xa) ?_);rintro _ T37 W_;refine aad<|ae 1 [] λ _=>aal [8] []<|aA [] [0,4,6,1,5,7,2,3] [.nw,.own 0,.own 1] [bn ((ah t.S t.i)+2)]<|aae 8 (aaf [] [] [0] (aj ((ah t.S t.i)+2) ((t.ins.getD (t.io+((t.i).toNat)) dI).act) W_) ?_);rintro _ Xs Uw;refine aad<|ae 2 [] λ _=>aal [] []<|ag [] [0,5,1,6,2,7,3,8,4,9,10] [.own 1,.own 1]<|aad<|ae 1 [] λ _=>aam (i64.wrap (t.i+1)<t.S.players) 95 (λ S6=>?_) λ S6=>?_
    ·refine ae 1 [] λ _=>aal [11] []<|ag [] [0,4,1,5,2,6,3,7,8,9,10] [.own 1,.own 1]<|aae 11 (aaf [] [] [0] (aj 2 (i64.wrap (t.i+1)) Uw) ?_);rintro _ YX W9;refine aad<|aaq [] [1] [0] (v:=.tuple #[]) (H':=(ap [(tb,.lit (Stp.l t mb) 238 (0,0))] [YX])) ?_;refine⟨YX,rfl,?_⟩;have e:(aR t M)=((((M.set ((ah t.S t.i)+0) ((t.ins.getD (t.io+((t.i).toNat)) dI).dx)).set ((ah t.S t.i)+1) ((t.ins.getD (t.io+((t.i).toNat)) dI).dy)).set ((ah t.S t.i)+2) ((t.ins.getD (t.io+((t.i).toNat)) dI).act)).set 2 (i64.wrap (t.i+1))):=by
      first|(simp only[aR,bj,bx,bL,Stp.inp,if_neg h1,if_pos Yl,if_pos h33,if_pos S6];try rfl;done)|rfl
     rw[e];exact W9.weak (by omega)
    ·refine ae 3 [] λ _=>aaj [1] [0] (bP t 1 0 tb mb (((M.set ((ah t.S t.i)+0) ((t.ins.getD (t.io+((t.i).toNat)) dI).dx)).set ((ah t.S t.i)+1) ((t.ins.getD (t.io+((t.i).toNat)) dI).dy)).set ((ah t.S t.i)+2) ((t.ins.getD (t.io+((t.i).toNat)) dI).act)) (k+2) Xs _ Uw hS.up ) ?_;rintro _ T44 W8;refine ae 1 [] λ _=>aaq [] [0] [0] (v:=.tuple #[]) (H':=(ap [(tb,.lit (Stp.l t mb) 238 (0,0))] [T44])) ?_;refine⟨T44,rfl,?_⟩;have e:(aR t M)=(aM t 1 0 (((M.set ((ah t.S t.i)+0) ((t.ins.getD (t.io+((t.i).toNat)) dI).dx)).set ((ah t.S t.i)+1) ((t.ins.getD (t.io+((t.i).toNat)) dI).dy)).set ((ah t.S t.i)+2) ((t.ins.getD (t.io+((t.i).toNat)) dI).act))):=by
      first|(simp only[aR,bj,bx,bL,Stp.inp,if_neg h1,if_pos Yl,if_pos h33,if_neg S6];try rfl;done)|rfl
     rw[e];exact W8.weak (by omega)
   ·refine ae 4 [] λ _=>aal [] []<|ag [] [0,5,1,6,2,7,3,8,4,9,10] (aab 2)<|aad<|ae 1 [] λ _=>aam (i64.wrap (t.i+1)<t.S.players) 95 (λ h46=>?_) λ h46=>?_
    ·refine ae 1 [] λ _=>aal [11] []<|ag [] [0,4,1,5,2,6,3,7,8,9,10] (aab 2)<|aae 11 (aaf [] [] [0] (aj 2 (i64.wrap (t.i+1)) hM) ?_);rintro _ T47 Z7;refine aad<|aaq [] [0] [0] (v:=.tuple #[]) (H':=(ap [(tb,.lit (Stp.l t mb) 238 (0,0))] [T47])) ?_;refine⟨T47,rfl,?_⟩;have e:(aR t M)=(M.set 2 (i64.wrap (t.i+1))):=by
      first|(simp only[aR,bj,bx,bL,Stp.inp,if_neg h1,if_pos Yl,if_neg h33,if_pos h46];try rfl;done)|rfl
     rw[e];exact Z7.weak (by omega)
    ·refine ae 3 [] λ _=>aaj [0] [0] (bP t 1 0 tb mb M (k+5) T _ hM hS.up ) ?_;rintro _ Yn Uv;refine ae 1 [] λ _=>aaq [] [0] [0] (v:=.tuple #[]) (H':=(ap [(tb,.lit (Stp.l t mb) 238 (0,0))] [Yn])) ?_;refine⟨Yn,rfl,?_⟩;have e:(aR t M)=(aM t 1 0 M):=by
      first|(simp only[aR,bj,bx,bL,Stp.inp,if_neg h1,if_pos Yl,if_neg h33,if_neg h46];try rfl;done)|rfl
     rw[e];exact Uv.weak (by omega)
  ·refine ag [] [3,7,4,8,5,9,6,10,11,12,13] []<|aad<|ae 5 [] λ _=>aal [] []<|ag [] [0,5,1,6,2,7,3,8,4,9,10] (aab 2)<|aad<|ae 1 [] λ _=>aam (i64.wrap (t.i+1)<t.S.players) 95 (λ V6=>?_) λ V6=>?_
   ·refine ae 1 [] λ _=>aal [11] []<|ag [] [0,4,1,5,2,6,3,7,8,9,10] (aab 2)<|aae 11 (aaf [] [] [0] (aj 2 (i64.wrap (t.i+1)) hM) ?_);rintro _ XE W7;refine aad<|aaq [] [0] [0] (v:=.tuple #[]) (H':=(ap [(tb,.lit (Stp.l t mb) 238 (0,0))] [XE])) ?_;refine⟨XE,rfl,?_⟩;have e:(aR t M)=(M.set 2 (i64.wrap (t.i+1))):=by
     first|(simp only[aR,bj,bx,bL,Stp.inp,if_neg h1,if_neg Yl,if_pos V6];try rfl;done)|rfl
    rw[e];exact W7.weak (by omega)
   ·refine ae 3 [] λ _=>aaj [0] [0] (bP t 1 0 tb mb M (k+5) T _ hM hS.up ) ?_;rintro _ T54 W6;refine ae 1 [] λ _=>aaq [] [0] [0] (v:=.tuple #[]) (H':=(ap [(tb,.lit (Stp.l t mb) 238 (0,0))] [T54])) ?_;refine⟨T54,rfl,?_⟩;have e:(aR t M)=(aM t 1 0 M):=by
     first|(simp only[aR,bj,bx,bL,Stp.inp,if_neg h1,if_neg Yl,if_neg V6];try rfl;done)|rfl
    rw[e];exact W6.weak (by omega)
end Go.Proofs.YtdppjkjbghbnjaaGreatDoor
