import Derived.Test.YtdppjkjbghbnjaaGreatDoorY11
set_option maxHeartbeats 4000000
set_option maxRecDepth 100000
set_option linter.all false
namespace Go.Proofs.YtdppjkjbghbnjaaGreatDoor
open Go.RowKit
theorem MemH.len{mb:Nat}{M:MemS}{k:Nat}{T:HL}(h:MemH mb M k T):M.cs.length <= 1000000:=by
 cases h with
 | mk cb A cap Hl hs hc hl=>exact hc
theorem mm(mb cb n:Nat)(A:Option Addr)(m cap:Nat)(base:Int)(F:HL)(hm:(mb,.lit [vS cb 0 n n,.slice A m cap,vI base] 162 (0,0))∈F):Sp Tryz.prog 79 #[vP mb 0] [] F (λ u H'=>u=vI (n:Int) /\ H'=[]):=by
 refine aav Tryz.func79 rfl (mc hm mn) (A:=[]) (Ts:=[]) rfl λ w0=>?_;refine ae 15 [.ro 0] λ _=>?_;exact aaq [] [] [] ⟨rfl,rfl⟩
theorem hZ{mb:Nat}{M:MemS}{k:Nat}{T:HL}{F:HL}(h:MemH mb M k T)(hs:∀x∈T,x∈F):Sp Tryz.prog 79 #[vP mb 0] [] F (λ u H'=>u=vI (M.cs.length:Int) /\ H'=[]):=by
 cases h with
 | mk cb A cap Hl VX hc hl=>exact mm mb cb M.cs.length A M.lg.length cap M.base F (hs _ (by simp))
theorem mr{M:MemS}{i:Nat}(h:i<M.cs.length):M.get (i:Int)=M.cs.getD i 0:=by
 unfold MemS.get;rw[if_pos (by omega),Int.toNat_natCast]
theorem gh(mb:Nat)(M:MemS)(k:Nat)(T F:HL)(hM:MemH mb M k T)(hT:∀x∈T,x∈F):Sp Tryz.prog 56 #[vP mb 0] (ap [] []) F (λ u H'=>∃q,H'=ap [(q,.rows 1 M.cs.length (aB M.cs) 3 (0,0))] [] /\ u=vS q 0 M.cs.length M.cs.length):=by
 have hl:=hM.len;refine aav Tryz.func56 rfl mn (A:=[]) (Ts:=[]) rfl λ w0=>?_;refine ae 8 [] λ _=>aai (hZ hM (λ x hx=>List.mem_append_right _ (hT x hx)))<|ah 8 [.mk M.cs.length M.cs.length] [(M.cs.length:Int)=((M.cs.length:Nat):Int) /\ (M.cs.length:Int)=((M.cs.length:Nat):Int) /\ M.cs.length <= M.cs.length /\ 8*M.cs.length <= 140737488355328 /\ 1=1 /\ M.cs.length <= 9223372036854775807] λ n1=>aai (hZ hM (λ x hx=>List.mem_append_right _ (hT x hx)))<|ae 4 [] λ _=>aah 0 (congrArg (λ v_=>(.rows 1 M.cs.length v_ 3 (0,0):Blk)) (show (sm [vI 0])=(aB (oB M.cs 0)) from (by rw[mX M.cs])))<|aao (σ:=Nat) (λ i=>⟨[(0,vP mb 0),(3,vS (n1+0) 0 M.cs.length M.cs.length),(9,vI (M.cs.length:Int)),(10,vI (i:Int))],[((n1+0),.rows 1 M.cs.length (aB (oB M.cs i)) 3 (0,0))],[],i <= M.cs.length,M.cs.length-i⟩) 0 [0] [] (Nat.zero_le _) ?_;rintro i Yl Th;refine ae 6 [] λ _=>aam ((i:Int)<(M.cs.length:Int)) 11 (λ h4=>?_) λ h4=>?_
 ·refine ae 16 [] λ _=>aai (aD (i:Int) hM (λ x hx=>List.mem_append_right _ (hT x hx)))<|ah 9 [.ix i,.row 0 i 0,.nw] [aI ((i:Int)+1),(0+i*1)=i*1+0 /\ i<M.cs.length,(i:Int)=((i:Nat):Int) /\ i<M.cs.length] λ _=>aah 0 (congrArg (λ v_=>(.rows 1 M.cs.length v_ 3 (0,0):Blk)) (show (dG (aB (oB M.cs i)) i 0 (vI (M.get (i:Int))))=(aB (oB M.cs (i+1))) from (by rw[<- mY (cs:=M.cs) (i:=i) (by omega)];rw[mr (by omega)]))) ?_;refine Th (i+1) [0] [] ?_
  try dsimp only
  exact⟨by omega,by omega⟩
 ·refine ae 12 [] λ _=>aaq [] [0] [] (v:=vS (n1+0) 0 M.cs.length M.cs.length) (H':=[((n1+0),.rows 1 M.cs.length (aB (oB M.cs i)) 3 (0,0))]) ?_;have ei:i=M.cs.length:=by omega
  subst ei;exact⟨_,by rw[qj];rfl,rfl⟩
theorem iO(qa qb na nb Na Nb ca cb:Nat)(xs ys:List Int)(F:HL)(ha:(qa,.rows 1 Na (aB xs) 3 (0,0))∈F)(hb:(qb,.rows 1 Nb (aB ys) 3 (0,0))∈F)(ZU:na <= Na)(U7:nb <= Nb)(hn:na <= 1000000):Sp Tryz.prog 27 #[vS qa 0 na ca,vS qb 0 nb cb] [] F (λ u H'=>u=.bool (decide (gz na nb xs ys)) /\ H'=[]):=by
 refine aav Tryz.func27 rfl (mc ha (mc hb mn)) (A:=[]) (Ts:=[]) rfl λ w0=>?_;refine ae 15 [] λ _=>aan ((na:Int)=(nb:Int)) 10 (λ h1=>?_) λ h1=>?_
 ·refine ae 10 [] λ _=>aao (σ:=Nat) (λ i=>⟨[(0,vS qa 0 na ca),(1,vS qb 0 nb cb),(5,vI (i:Int))],[],[],i <= na /\ ∀t,t<i -> xs.getD t 0=ys.getD t 0,na-i⟩) 0 [] [] (⟨Nat.zero_le _,λ t ht=>absurd ht (Nat.not_lt_zero _)⟩) ?_;rintro i ⟨Ve,ZL⟩ Th;refine ae 9 [] λ _=>aam ((i:Int)<(na:Int)) 14 (λ h4=>?_) λ h4=>?_
  ·refine ae 6 [] λ _=>aal [] []<|av [] [0,1,4,5,2,6,3,7,8] [.ix i,.ix i,.rorow 0 i 0,.rorow 1 i 0] [(0+i*1)=i*1+0 /\ i<Nb,(0+i*1)=i*1+0 /\ i<Na,(i:Int)=((i:Nat):Int) /\ i<nb,(i:Int)=((i:Nat):Int) /\ i<na]<|aad<|ae 1 [] λ _=>aan (xs.getD i 0=ys.getD i 0) 25 (λ h5=>?_) λ h5=>?_
   ·refine ah 9 [.nw] [aI ((i:Int)+1)] λ _=>?_;refine Th (i+1) [] [] ?_
    try dsimp only
    refine⟨⟨by omega,λ t ht=>?_⟩,by omega⟩;rcases Nat.lt_or_ge t i with h_|h_
    ·exact ZL t h_
    ·obtain rfl:t=i:=by omega
     exact h5
   ·refine ae 6 [] λ _=>aaq [] [] [] (v:=.bool false) (H':=[]) ?_;exact⟨congrArg Value.bool (decide_eq_false (show ¬ gz na nb xs ys from λ h_=>h5 (h_.2 i (by omega)))).symm,rfl⟩
  ·refine ae 11 [] λ _=>aaq [] [] [] (v:=.bool true) (H':=[]) ?_;exact⟨congrArg Value.bool (decide_eq_true (show gz na nb xs ys from ⟨by omega,λ t ht=>ZL t (by omega)⟩)).symm,rfl⟩
 ·refine ae 6 [] λ _=>aaq [] [] [] (v:=.bool false) (H':=[]) ?_;exact⟨congrArg Value.bool (decide_eq_false (show ¬ gz na nb xs ys from λ h_=>by have:=h_.1;omega)).symm,rfl⟩
theorem ia(b:Bool)(qa qb na nb Na Nb ca cb:Nat)(xs ys:List Int)(F:HL)(ha:(qa,.rows 1 Na (aB xs) 3 (0,0))∈F)(hb:(qb,.rows 1 Nb (aB ys) 3 (0,0))∈F)(ZU:na <= Na)(U7:nb <= Nb)(hn:na <= 1000000)(he:decide (gz na nb xs ys)=b):Sp Tryz.prog 27 #[vS qa 0 na ca,vS qb 0 nb cb] [] F (λ u H'=>u=.bool b /\ H'=[]):=he ▸ iO qa qb na nb Na Nb ca cb xs ys F ha hb ZU U7 hn
theorem NewS.sl0{A':Option Addr}{g_:Nat}{AT:HL}(h:NewS dZ 195 ([]:List (Int × Int)) none A' g_ AT):SlIs dZ 195 [] A' g_ AT:=by
 rcases h with ⟨_,rfl,rfl,rfl⟩|⟨b,rfl,rfl,_⟩
 ·exact aau _ _
 ·refine .inr ⟨b,0,List.replicate g_ dZ.dflt,by simp,?_,by simp,Nat.zero_le _,rfl⟩;have:=mP (e:=dZ) [] g_;rw[List.nil_append] at this;rw[this,Nat.zero_add]
theorem BN{P:Program}{sz:Nat}{tx e':TypeId}{a:Addr}{m c':Nat}{w:World}(hm:m=0)(hk:P.underlying tx=some (.slice e')):Src P sz tx (.slice (some a) m c') 0 [] w:=by
 subst hm;exact Src.ofSlice w hk a 0 c' [] (by simp) (λ j u h=>by simp at h) (λ u h=>by simp at h)
theorem ew(mb cb n:Nat)(A:Option Addr)(m cap:Nat)(base:Int)(F:HL)(hm:(mb,.lit [vS cb 0 n n,.slice A m cap,vI base] 162 (0,0))∈F)(hb:0 <= base /\ base <= 1000000000)(hl:m <= 100000000):Sp Tryz.prog 84 #[vP mb 0,vI (base+(m:Int))] [] F (λ u H'=>u=vI 0 /\ H'=[]):=by
 refine aav Tryz.func84 rfl (mc hm mn) (A:=[]) (Ts:=[]) rfl λ w0=>?_;refine ae 18 [.ro 0] λ _=>aam (base+(m:Int)<base) 5 (λ h1=>?_) λ h1=>?_
 ·(exfalso;omega)
 ·refine ae 5 [] λ _=>aai (oh mb cb n A m cap base _ (aq hm) hb hl)<|ae 4 [] λ _=>aam (base+(m:Int)>base+(m:Int)) 12 (λ h2=>?_) λ h2=>?_
  ·(exfalso;omega)
  ·refine ae 9 [] λ _=>?_;exact aaq [] [] [] ⟨rfl,rfl⟩
theorem nE(mb cb k:Nat)(M:MemS)(F:HL)(hb:0 <= M.base /\ M.base <= 1000000000)(hc:M.cs.length <= 1000000)(hk:k <= 100000000):Sp Tryz.prog 58 #[vP mb 0,vI (M.base+((0:Nat):Int))] [(mb,.lit [vS cb 0 M.cs.length M.cs.length,.slice none 0 0,vI M.base] 162 (0,0)),(cb,.rows 1 M.cs.length (aB M.cs) 3 (0,0))] F (λ u H'=>u=vI 0 /\ MemH mb ⟨M.cs,[],M.base+((0:Nat):Int)⟩ k H'):=by
 refine aav Tryz.func58 rfl mn (A:=[(mb,.lit [vS cb 0 M.cs.length M.cs.length,.slice none 0 0,vI M.base] 162 (0,0)),(cb,.rows 1 M.cs.length (aB M.cs) 3 (0,0))]) (Ts:=[]) rfl λ w0=>?_;refine ae 10 [] λ _=>aai (ew mb cb M.cs.length none 0 0 M.base _ (az 0) hb (by omega))<|ah 40 [.own 0,.nw,.own 0,.own 0] [aI ((M.base+((0:Nat):Int))-M.base)] λ _=>aC 28 (congrArg (λ v_=>(vI v_:Value)) (show (M.base+((0:Nat):Int))-M.base=0 by omega))<|ae 18 (aab 2) λ _=>aam (0<(M.base+((0:Nat):Int))-M.base) 38 (λ h1=>?_) λ h1=>?_
 ·(exfalso;omega)
 ·refine ae 8 [] λ _=>aaq [] [0,1] [] (v:=vI 0) (H':=(ap [(mb,.lit [vS cb 0 M.cs.length M.cs.length,.slice none 0 0,vI (M.base+((0:Nat):Int))] 162 (0,0)),(cb,.rows 1 M.cs.length (aB M.cs) 3 (0,0))] [])) ?_;refine⟨rfl,?_⟩;have h_:=MemH.mk (mb:=mb) (M:=⟨M.cs,[],M.base+((0:Nat):Int)⟩) (k:=k) cb none 0 ([]) (aau _ _) hc (by simp;omega);simpa [ap] using h_
theorem nF(mb cb k b o cap:Nat)(M:MemS)(full:List (Int × Int))(F:HL)(hb:0 <= M.base /\ M.base <= 1000000000)(hc:M.cs.length <= 1000000)(hk:k <= 100000000)(hf:full.length=o+cap)(hn:M.lg.length=cap)(hl:M.lg.length <= 100000000):Sp Tryz.prog 58 #[vP mb 0,vI (M.base+(M.lg.length:Int))] [(mb,.lit [vS cb 0 M.cs.length M.cs.length,vS b (o*2) M.lg.length cap,vI M.base] 162 (0,0)),(cb,.rows 1 M.cs.length (aB M.cs) 3 (0,0)),(b,.rows 2 (o+cap) (aL dZ full) 195 (0,0))] F (λ u H'=>u=vI 0 /\ MemH mb ⟨M.cs,[],M.base+(M.lg.length:Int)⟩ k H'):=by
 refine aav Tryz.func58 rfl mn (A:=[(mb,.lit [vS cb 0 M.cs.length M.cs.length,vS b (o*2) M.lg.length cap,vI M.base] 162 (0,0)),(cb,.rows 1 M.cs.length (aB M.cs) 3 (0,0)),(b,.rows 2 (o+cap) (aL dZ full) 195 (0,0))]) (Ts:=[]) rfl λ w0=>?_;refine ae 10 [] λ _=>aai (ew mb cb M.cs.length (some ⟨b,o*2,none⟩) M.lg.length cap M.base _ (az 0) hb (by omega))<|ah 40 [.own 0,.nw,.own 0,.own 0] [aI ((M.base+(M.lg.length:Int))-M.base)] λ _=>aC 28 (congrArg (λ v_=>(vI v_:Value)) (show (M.base+(M.lg.length:Int))-M.base=(M.lg.length:Int) by omega))<|ah 18 [.sl M.lg.length M.lg.length true,.own 0,.own 0] [(M.lg.length:Int)=((M.lg.length:Nat):Int) /\ M.lg.length=M.lg.length /\ M.lg.length <= M.lg.length /\ M.lg.length <= cap /\ cap=M.lg.length] λ _=>aam ((((M.lg.length-M.lg.length):Nat):Int)<(M.base+(M.lg.length:Int))-M.base) 38 (λ h1=>?_) λ h1=>?_
 ·refine ae 7 [.own 0] λ _=>aap<|fJ (A:=none) (B:=(some ⟨b,o*2,none⟩)) (c':=(cap-M.lg.length)) lR ([]:List (Int × Int)) 0 (λ a_ e_=>by cases e_) (m:=(M.lg.length-M.lg.length)) (tx:=160) (by simp) (by simp) (λ e_ he X w hR=>BN (by simp) he) ?_;rintro A2 c3 T4 Ty;refine ae 10 [.own 0] λ _=>aaq [] [0,1] [0] (v:=vI 0) (H':=(ap [(mb,.lit [vS cb 0 M.cs.length M.cs.length,.slice A2 0 c3,vI (M.base+(M.lg.length:Int))] 162 (0,0)),(cb,.rows 1 M.cs.length (aB M.cs) 3 (0,0))] [T4])) ?_;refine⟨rfl,?_⟩;have h_:=MemH.mk (mb:=mb) (M:=⟨M.cs,[],M.base+(M.lg.length:Int)⟩) (k:=k) cb A2 c3 T4 Ty.sl0 hc (by simp;omega);exact h_
 ·refine ae 8 [] λ _=>aaq [] [0,1,2] [] (v:=vI 0) (H':=(ap [(mb,.lit [vS cb 0 M.cs.length M.cs.length,vS b (o*2) (M.lg.length-M.lg.length) (cap-M.lg.length),vI (M.base+(M.lg.length:Int))] 162 (0,0)),(cb,.rows 1 M.cs.length (aB M.cs) 3 (0,0)),(b,.rows 2 (o+cap) (aL dZ full) 195 (0,0))] [])) ?_;refine⟨rfl,?_⟩;rw[Nat.sub_self];have h_:=MemH.mk (mb:=mb) (M:=⟨M.cs,[],M.base+(M.lg.length:Int)⟩) (k:=k) cb (some ⟨b,o*2,none⟩) (cap-M.lg.length) ([(b,.rows 2 (o+cap) (aL dZ full) 195 (0,0))]) (.inr ⟨b,o,full,rfl,by rw[show o+(cap-M.lg.length)=o+cap by omega];rfl,by omega,Nat.zero_le _,rfl⟩) hc (by simp;omega);simpa [ap] using h_
theorem nG(mb cb k b o cap:Nat)(M:MemS)(full:List (Int × Int))(F:HL)(hb:0 <= M.base /\ M.base <= 1000000000)(hc:M.cs.length <= 1000000)(hk:k <= 100000000)(hf:full.length=o+cap)(hn:M.lg.length<cap)(hl:M.lg.length <= 100000000):Sp Tryz.prog 58 #[vP mb 0,vI (M.base+(M.lg.length:Int))] [(mb,.lit [vS cb 0 M.cs.length M.cs.length,vS b (o*2) M.lg.length cap,vI M.base] 162 (0,0)),(cb,.rows 1 M.cs.length (aB M.cs) 3 (0,0)),(b,.rows 2 (o+cap) (aL dZ full) 195 (0,0))] F (λ u H'=>u=vI 0 /\ MemH mb ⟨M.cs,[],M.base+(M.lg.length:Int)⟩ k H'):=by
 refine aav Tryz.func58 rfl mn (A:=[(mb,.lit [vS cb 0 M.cs.length M.cs.length,vS b (o*2) M.lg.length cap,vI M.base] 162 (0,0)),(cb,.rows 1 M.cs.length (aB M.cs) 3 (0,0)),(b,.rows 2 (o+cap) (aL dZ full) 195 (0,0))]) (Ts:=[]) rfl λ w0=>?_;refine ae 10 [] λ _=>aai (ew mb cb M.cs.length (some ⟨b,o*2,none⟩) M.lg.length cap M.base _ (az 0) hb (by omega))<|ah 40 [.own 0,.nw,.own 0,.own 0] [aI ((M.base+(M.lg.length:Int))-M.base)] λ _=>aC 28 (congrArg (λ v_=>(vI v_:Value)) (show (M.base+(M.lg.length:Int))-M.base=(M.lg.length:Int) by omega))<|ah 18 [.sl M.lg.length M.lg.length false,.own 0,.own 0] [(M.lg.length:Int)=((M.lg.length:Nat):Int) /\ M.lg.length=M.lg.length /\ M.lg.length <= M.lg.length /\ M.lg.length <= cap /\ cap≠M.lg.length] λ _=>aam ((((M.lg.length-M.lg.length):Nat):Int)<(M.base+(M.lg.length:Int))-M.base) 38 (λ h1=>?_) λ h1=>?_
 ·refine ae 7 [.own 0] λ _=>aap<|fJ (A:=none) (B:=(some ⟨b,(o*2+M.lg.length*2),none⟩)) (c':=(cap-M.lg.length)) lR ([]:List (Int × Int)) 0 (λ a_ e_=>by cases e_) (m:=(M.lg.length-M.lg.length)) (tx:=160) (by simp) (by simp) (λ e_ he X w hR=>BN (by simp) he) ?_;rintro A2 c3 T4 Ty;refine ae 10 [.own 0] λ _=>aaq [] [0,1] [0] (v:=vI 0) (H':=(ap [(mb,.lit [vS cb 0 M.cs.length M.cs.length,.slice A2 0 c3,vI (M.base+(M.lg.length:Int))] 162 (0,0)),(cb,.rows 1 M.cs.length (aB M.cs) 3 (0,0))] [T4])) ?_;refine⟨rfl,?_⟩;have h_:=MemH.mk (mb:=mb) (M:=⟨M.cs,[],M.base+(M.lg.length:Int)⟩) (k:=k) cb A2 c3 T4 Ty.sl0 hc (by simp;omega);exact h_
 ·refine ae 8 [] λ _=>aaq [] [0,1,2] [] (v:=vI 0) (H':=(ap [(mb,.lit [vS cb 0 M.cs.length M.cs.length,vS b (o*2+M.lg.length*2) (M.lg.length-M.lg.length) (cap-M.lg.length),vI (M.base+(M.lg.length:Int))] 162 (0,0)),(cb,.rows 1 M.cs.length (aB M.cs) 3 (0,0)),(b,.rows 2 (o+cap) (aL dZ full) 195 (0,0))] [])) ?_;refine⟨rfl,?_⟩;rw[Nat.sub_self];have h_:=MemH.mk (mb:=mb) (M:=⟨M.cs,[],M.base+(M.lg.length:Int)⟩) (k:=k) cb (some ⟨b,o*2+M.lg.length*2,none⟩) (cap-M.lg.length) ([(b,.rows 2 (o+cap) (aL dZ full) 195 (0,0))]) (.inr ⟨b,o+M.lg.length,full,by rw[Nat.add_mul];rfl,by rw[show o+M.lg.length+(cap-M.lg.length)=o+cap by omega];rfl,by omega,Nat.zero_le _,rfl⟩) hc (by simp;omega);simpa [ap] using h_
theorem kq{mb:Nat}{M:MemS}{k k2:Nat}{T:HL}(F:HL)(h:MemH mb M k T)(hb:0 <= M.base /\ M.base <= 1000000000)(hk:k2 <= 100000000):Sp Tryz.prog 58 #[vP mb 0,vI (M.base+(M.lg.length:Int))] (ap [] [T]) F (λ u H'=>∃x,H'=ap [] [x] /\ (u=vI 0 /\ MemH mb ⟨M.cs,[],M.base+(M.lg.length:Int)⟩ k2 x)):=by
 rw[aP];cases h with
 | mk cb A cap Hl hs hc hl =>
  rcases hs with ⟨rfl,rfl,h1,rfl⟩|⟨b,o,full,rfl,rfl,h1,h2,h3⟩
  ·have e:M.lg.length=0:=by rw[h1];rfl
   rw[e];have key:=nE mb cb k2 M F hb hc hk;exact key.tl
  ·rcases Nat.lt_or_ge M.lg.length cap with h4|h4
   ·have key:=nG mb cb k2 b o cap M full F hb hc hk h1 h4 (by omega);exact key.tl
   ·have key:=nF mb cb k2 b o cap M full F hb hc hk h1 (by omega) (by omega);exact key.tl
end Go.Proofs.YtdppjkjbghbnjaaGreatDoor
