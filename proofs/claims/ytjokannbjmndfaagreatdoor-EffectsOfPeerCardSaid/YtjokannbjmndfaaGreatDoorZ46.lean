import Derived.Test.YtjokannbjmndfaaGreatDoorZ45
import Derived.Test.YtjokannbjmndfaaGreatDoorZ08
import Derived.Lib.RowBridge
import Derived.Test.YtjokannbjmndfaaGreatDoorZ40
set_option linter.all false
set_option maxHeartbeats 4000000
set_option maxRecDepth 100000
namespace Go.Proofs.YtjokannbjmndfaaGreatDoor
open Go.RowKit Go.Shelf Go.MapKept Go.WideElems Go.Maps
variable {A:Option Addr} {F G Pl Tm:HL} {T:TypeId} {b bb n:Nat} {bd:Int} {r1:List Eff} {w w':World} {xs:List Int} (mb:Nat)
theorem NJ{g:Nat}{bl:Blk}(hR:Rel F w)(hb:Below w.heap.size w w')(hg:w.heap.size<=g)(h:w'.heap[g]?=some bl.den):Rel ([(g,bl)]++F) w':=by
 refine⟨λ x hx=>?_,?_⟩
 ·rcases np.1 hx with hx|hx
  ·rw[eb.1 hx];exact h
  ·have h1:=hR.holds x hx;exact(hb.block x.1 (aW h1)).trans h1
 ·refine acX.2 ⟨λ hm=>?_,hR.nodup⟩;obtain⟨x,hx,e⟩:=abY.1 hm;have h1:=aW (hR.holds x hx);have e2:x.1=g:=e;omega
theorem Lk(hb:Below w.heap.size w w'):Below 0 w w':=⟨hb.os,hb.tape,hb.output,hb.size,λ k hk=>absurd hk (ot _)⟩
theorem vD(l:List Int):ak dV l=l.map vI:=by
 induction l with
 |nil=>rfl
 |cons x l ih=>
  show ((List.range 1).map (dV.cell x))++ak dV l=_;rw[ih];rfl
theorem NK(xs:List Int):xs.map encZ=xs.map vI:=rfl
def heldR(v:Value):Option (DataW Value×List MemPlace):=some (.held v,[])
theorem mfOw {ks : List Int} {f : Int → Option Value} (h : MapF (Value.int .i64) w b ks f) (hk : ∀ k ∈ ks, (Lit.int .i64 k).wf = true) (hn : ks.length ≤ 1000000) :
    ∃ D0 : DataW Value, w.ownsMap Tryz.prog 3 heldR b ks.length D0 ∧ (intKeys D0).Perm ks ∧ Maps.size D0 = ks.length := by
  obtain ⟨es, clock, hb, hst, h2, h3, h4⟩ := h
  have hl := congrArg List.length h2
  simp only [acD, Array.length_toList] at hl
  have hread : ∀ x ∈ es.toList, ∃ k ∈ ks, x.key = .int .i64 k := by
    intro x hx
    have : x.key ∈ es.toList.map (·.key) := acU hx
    rw [h2] at this
    obtain ⟨k, hk, e⟩ := abY.1 this
    exact ⟨k, hk, e.symm⟩
  have hrd : ∀ x ∈ es.toList, ∀ k, x.key = .int .i64 k → k ∈ ks → Go.WideElems.rd Tryz.prog 3 heldR x = some (.int .i64 k, .held x.val) := by
    intro x _ k e hks
    unfold Go.WideElems.rd
    rw [e, keyOf_int_mk Tryz.underlying3 (hk k hks)]
    rfl
  refine ⟨_, ⟨es, clock, hb, ⟨by unfold maxLen; omega, hst, fun x hx => ?_⟩, by omega, rfl⟩, ?_, ?_⟩
  · obtain ⟨k, hks, e⟩ := hread x hx
    exact ⟨_, hrd x hx k e hks⟩
  · have hp := (WideShapes.sorted_perm (es.toList.map (Go.WideElems.rg Tryz.prog 3 heldR))).map (fun p => Go.intOf p.1)
    refine hp.trans ?_
    have : (es.toList.map (Go.WideElems.rg Tryz.prog 3 heldR)).map (fun p => Go.intOf p.1) = ks := by
      rw [afC]
      have h5 : ks = (es.toList.map (·.key)).map (fun v => RowKit.intOf v) := by
        rw [h2, afC]
        conv => lhs; rw [← List.map_id ks]
        rfl
      rw [h5, afC]
      refine adB fun x hx => ?_
      obtain ⟨k, hks, e⟩ := hread x hx
      simp only [Function.comp, Go.WideElems.rg, hrd x hx k e hks, adz, e]
      rfl
    rw [this]
  · rw [size_eq, length_sorted]
    simp; omega
theorem Ll{Bm:Nat}{ks:List Int}{f:Int->Option Value}(hB:(Bm,.lit [.map (some b)] 101 (0,0))∈F)(hT:MapT (Value.int .i64) b ks f Tm)(hs:∀x∈Tm,x∈F)(hk:∀k∈ks,0<=k/\k<6000)(hn:ks.length<=6000) :
  af1 64 #[.func (.func 100) #[] #[vP Bm 0]] (ap [] []) F (λ u H'=>∃x:List Int×Option Addr×Nat×HL,H'=ap [] [x.2.2.2]/\(u=.slice x.2.1 x.1.length x.2.2.1/\x.1.Perm ks/\∀F',(∀y∈x.2.2.2,y∈F')->SrcIn Tryz.prog dV F' x.2.1 x.1.length x.1)):=by
 intro w hR;have V6:Rel F w:=by simpa [ap] using hR
 obtain⟨es,clock,rfl,g1,g2,g3,g4⟩:=hT;have abS:MapF (Value.int .i64) w b ks f:=⟨es,clock,V6.holds _ (hs _ (eb.2 rfl)),g1,g2,g3,g4⟩;have hb0:=V6.holds _ hB;have hBm:Bm<w.heap.size:=aW hb0;have hm:w.cell? ⟨Bm,0,none⟩=some (.map (some b)):=by
  simp only[Blk.den] at hb0;simp[World.cell?,hb0]
 obtain⟨D0,Wc,o_,L_⟩:=mfOw abS (λ k h=>WalkArith.wf_i64 (by have:=hk k h;omega)) (by omega);have ahd:SeqGives Fence.wide 3 Tryz.prog 100 #[.pointer (some ⟨Bm,0,none⟩)] encZ (λ ss=>ss.Perm (intKeys D0)) (Maps.size D0) w :=
  AnyZI.keys_gives (ρ:=lP) { Cy with } Fence.wide _ trivial rfl (by omega) Bm b ks.length D0 w hBm hm Wc
 have h:=AnyZI.collect_in tU Fence.wide 5 trivial trivial rfl (by omega) 100 #[.pointer (some ⟨Bm,0,none⟩)] trivial (enters_of Tryz.func100 (by kernel_rfl) rfl) _ _ (by unfold maxLen;omega) (by omega) w ahd;refine((callsIn_wide (n:=5)).1 h).mono ?_;rintro e w' ⟨v,ss,rfl,hS,Uh,_,hb⟩;rcases Uh.2 with ⟨rfl,h0⟩|⟨g,cap,cur,rfl,WI,hg,hnc,hcm,XU,aaP⟩
 ·obtain rfl:ss=[]:=aa6 h0;exact⟨_,_,rfl,⟨([],none,0,[]),rfl,rfl,hS.trans o_,λ _ _=>SrcIn.none⟩,show Rel F w' from ⟨λ x hx=>(hb.block x.1 (aW (V6.holds x hx))).trans (V6.holds x hx),V6.nodup⟩,Lk hb⟩
 ·have ait:cur.toList=ak dV ss++cur.toList.drop ss.length:=by
   rw[vD]
   conv=>lhs;rw[<- abt ss.length cur.toList]
   rw[Nat.mul_one,NK] at aaP;rw[aaP]
  have aip:w'.heap[g]?=some (Blk.lit (ak dV ss++cur.toList.drop ss.length) 3 (0,0)).den:=by
   rw[<- ait];show _=some (Obj.cells ⟨cur.toList⟩ _ _);exact hg
  refine⟨_,_,rfl,⟨(ss,some ⟨g,0,none⟩,cap,[(g,.lit (ak dV ss++cur.toList.drop ss.length) 3 (0,0))]),rfl,rfl,hS.trans o_,λ F' h=>SrcIn.lit wo (h _ (eb.2 rfl))⟩,?_,Lk hb⟩;show Rel (([]++[_].flatten)++F) w';rw[aea,WF];exact NJ V6 hb WI aip
theorem xj{l:List Int}{c:Nat}(h:l.length=c)(T:TypeId):(Blk.rows 1 c (aD dV l) T (0,0)).den=.cells ⟨l.map vI⟩ T (0,0):=by
 subst h;show Obj.cells ⟨bj 1 (aD dV l) l.length⟩ T (0,0)=_;have:=fQ (e:=dV) l;rw[vD] at this;rw[show bj 1 (aD dV l) l.length=bj dV.w (aD dV l) l.length from rfl,this]
theorem Lm{H:HL}(h:Rel H w)(os:Array Obj):Rel H (Go.Sort.grow w os):=⟨λ x hx=>by
 have h1:=h.holds x hx;show (w.heap++os)[x.1]?=_;rw[acR (aW h1)];exact h1,h.nodup⟩
theorem xk(l:List Value)(k:Nat):(⟨l⟩:Array Value)[k]?=l[k]?:=by simp
theorem Gz(l l2 rest:List Int)(hl:l2.length=l.length):Go.Sort.putCells (Value.int .i64) 0 l2.toArray ⟨(l++rest).map vI⟩=⟨(l2++rest).map vI⟩:=by
 apply afD;intro k;unfold Go.Sort.putCells;rw[Array.getElem?_mapIdx];rw[xk,xk,abo,abo]
 by_cases hk:k<l.length
 ·rw[aa2 hk,aa2 (by omega),aa1 hk,aa1 (by omega)];have h2:0<=k/\k<0+l2.toArray.size:=⟨aaJ _,by simp;omega⟩;simp only[UV,if_pos h2,afB];rw[getElem!_pos l2.toArray k (by simp;omega)];simp
 ·rw[aa3 (by omega),aa3 (by omega),hl];cases rest[k-l.length]? with
  |none=>rfl
  |some y=>
   have h2:¬ (0<=k/\k<0+l2.toArray.size):=by simp;omega
   simp only[UV,if_neg h2]
theorem NL{c:Nat}{l l2 rest:List Int}(hl:l2.length=l.length)(hc:l.length+rest.length=c)(hR:Rel ([(b,.rows 1 c (aD dV (l++rest)) T (0,0))]++F) w)
  (hw:w'.heap=(Go.Sort.putRow (Value.int .i64) w b 0 l2.toArray).heap):Rel ([(b,.rows 1 c (aD dV (l2++rest)) T (0,0))]++F) w':=by
 have h0:=hR.holds _ (aaB _ (eb.2 rfl));simp only at h0;rw[xj (by rw[aaK];exact hc)] at h0;refine hR.upd (p:=0) (b:=b) (bl':=.rows 1 c (aD dV (l2++rest)) T (0,0)) rfl ?_ ?_
 ·rw[hw,xj (by rw[aaK,hl];exact hc)];show (w.heap.modify b _)[b]?=_;rw[acf,if_pos rfl,h0];show some (Obj.cells (Go.Sort.putCells (Value.int .i64) 0 l2.toArray ⟨(l++rest).map vI⟩) T (0,0))=_;rw[Gz l l2 rest hl]
 ·intro k hk;rw[hw];show (w.heap.modify b _)[k]?=_;rw[acf,if_neg (λ e=>hk e.symm)]
theorem GA{c:Nat}{l rest:List Int}(hc:l.length+rest.length=c)(hR:Rel ([(b,.rows 1 c (aD dV (l++rest)) T (0,0))]++F) w):Go.Sort.Holds (Value.int .i64) w b 0 l.toArray:=by
 have h0:=hR.holds _ (aaB _ (eb.2 rfl));simp only at h0;rw[xj (by rw[aaK];exact hc)] at h0;intro j hj;have Z1:j<l.length:=by simpa using hj
 refine⟨?_,?_⟩
 ·unfold World.cell?;simp only[h0,abP];rw[if_neg (by simp),xk,abo,aa2 Z1,aa1 Z1,getElem!_pos l.toArray j hj];simp
 ·unfold World.frozen?;simp only[h0];simp
abbrev NM(l:List Int):List Int:=l.mergeSort λ x y=>decide (x<=y)
theorem o0(l:List Int):(NM l).length=l.length:=List.length_mergeSort _
theorem s8(l:List Int):(NM l).Pairwise (· <= ·):=by
 have:=List.pairwise_mergeSort (le:=λ x y:Int=>decide (x<=y)) (λ a b c h1 h2=>by simp at *;omega) (λ a b=>by simp;omega) l;exact this.imp λ h=>by simpa using h
theorem Ln{l:List Int}{c:Nat}{T:HL}(hs:ClS dV 3 l A c T)(hb:l.length<=100000000):af1 98 #[.slice A l.length c] (ap [] [T]) F (λ u H'=>∃x:HL,H'=ap [] [x]/\(u=.tuple #[]/\ClS dV 3 (NM l) A c x)):=by
 intro w hR
 by_cases hl:l=[]
 ·subst hl;refine(Tryz.slices_Sort_int_none A c w).mono ?_;rintro e w' ⟨rfl,rfl⟩;exact⟨_,_,rfl,⟨T,rfl,rfl,by simpa [NM] using hs⟩,hR,jt _ _⟩
 ·obtain⟨A0,⟨h0,_⟩|⟨b,rfl,rfl,hc⟩⟩:=hs
  ·exact absurd h0 hl
  ·obtain⟨k,rfl⟩:∃k,c=l.length+k:=⟨c-l.length,by omega⟩;have e1:=lr (e:=dV) l k;have e2:=lr (e:=dV) (NM l) k;have V6:Rel ([(b,.rows 1 (l.length+k) (aD dV (l++List.replicate k dV.dflt)) 3 (0,0))]++F) w:=by rw[e1];rwa [ap,aea,WF] at hR
   have iN:=V6.lt (aaB _ (eb.2 rfl));refine(Tryz.slices_Sort_int b 0 (l.length+k) l w (GA (by simp) V6) iN (by omega)).mono ?_;rintro e w' ⟨rfl,n,os,rfl⟩;refine⟨_,_,rfl,⟨[(b,.rows 1 (l.length+k) (aD dV (NM l)) 3 (0,0))],rfl,rfl,A0,.inr ⟨b,rfl,rfl,by rw[o0];omega⟩⟩,?_,?_⟩
   ·have h2:=Lm (NL (w':=Go.Sort.putRow (Value.int .i64) (Go.Sort.ahead w n) b 0 (NM l).toArray) (o0 l) (by simp) V6 rfl) os;rw[e2] at h2;show Rel (([]++[_].flatten)++F) _;rw[aea,WF];exact h2
   ·exact⟨rfl,rfl,rfl,by show w.heap.size<=((w.heap.modify _ _)++os).size;simp,λ k hk=>absurd hk (ot _)⟩
theorem s9{a:Addr} (c:Nat)(hl:SrcIn Tryz.prog dV F (some a) n xs)(hb:n<=100000000):af1 97 #[.slice (some a) n c] [] F (λ u H'=>∃x:Option Addr×Nat×HL,H'=ap [] [x.2.2]/\(u=.slice x.1 n x.2.1/\ClS dV 3 xs x.1 x.2.1 x.2.2)):=by
 refine QG Tryz.func97<|ae 19 [] λ n1=>aao<|gD (A:=(some ⟨(n1+0),0,none⟩)) (B:=(some a)) (c':=c) wo xs 0 (λ a_ e_=>by cases e_;rfl) (m:=n) (tx:=22) hl.1.1.symm (by rw[hl.1.1];exact hb) (λ e_ he X w hR=>hl.2 c he X w hR) ?_;rintro A2 c3 T4 U8;refine OG 3<|QI [] [] [0] (.slice A2 xs.length c3) (ap [] [T4]) ⟨(A2,c3,T4),rfl,by rw[hl.1.1],_,U8⟩
theorem ta(c:Nat)(F:HL):af1 97 #[.slice none 0 c] [] F (λ u H'=>∃x:Option Addr×Nat×HL,H'=ap [] [x.2.2]/\(u=.slice x.1 0 x.2.1/\ClS dV 3 [] x.1 x.2.1 x.2.2)):=by
 refine QG Tryz.func97<|OG 18<|QJ (.slice none 0 0) (ap [] []) ⟨(none,0,[]),rfl,rfl,.nil _ _ _⟩
theorem tV (c:Nat)(hl:SrcIn Tryz.prog dV F A n xs)(hb:n<=100000000):af1 97 #[.slice A n c] (ap [] []) F (λ u H'=>∃x:Option Addr×Nat×HL,H'=ap [] [x.2.2]/\(u=.slice x.1 n x.2.1/\ClS dV 3 xs x.1 x.2.1 x.2.2)):=by
 cases A with
 |some a=>exact s9 c hl hb
 |none=>
  obtain rfl:n=0:=hl.1.2 rfl;obtain rfl:xs=[]:=aa6 hl.1.1;exact ta c F
theorem GB:af1 65 #[.map (some mb)] (ap [] []) F (λ u H'=>∃q:Nat,H'=ap [(q,.lit [.map (some mb)] 101 (0,0))] []/\u=.func (.func 100) #[] #[vP q 0]):=by
 refine QG Tryz.func65<|ae 12 [] λ n1=>QI [] [0] [] (.func (.func 100) #[] #[vP (n1+0) 0]) (ap [((n1+0),.lit [.map (some mb)] 101 (0,0))] []) ⟨(n1+0),rfl,rfl⟩
theorem Ak(c:Nat)(hl:SrcIn Tryz.prog dV F A xs.length xs)(hb:xs.length<=100000000):af1 63 #[.slice A xs.length c] (ap [] []) F (λ u H'=>∃x:Option Addr×Nat×HL,H'=ap [] [x.2.2]/\(u=.slice x.1 xs.length x.2.1/\ClS dV 3 (NM xs) x.1 x.2.1 x.2.2)):=by
 refine QG Tryz.func63<|OG 8<|Ss (tV c hl.up hb) ?_;rintro _ ⟨A1,c2,T3⟩ ⟨rfl,Z5⟩;dsimp only at Z5;refine OG 6<|aai [] [0] (Ln Z5 hb) ?_;rintro _ T5 ⟨rfl,hc6⟩;refine OG 8<|QI [] [] [0] (.slice A1 xs.length c2) (ap [] [T5]) ⟨(A1,c2,T5),rfl,rfl,hc6⟩
theorem tc{mb:Nat}{c:Nat->List Eff}{ks:List Int}{f:Int->Option Value}(hM:BoardM bd c mb ks f Tm Pl)(hbb:(bb,.lit [.map (some mb),vI bd] 103 (0,0))∈F)(hTm:∀x∈Tm,x∈F):af1 37 #[vP bb 0] (ap [] []) F (λ u H'=>∃x:List Int×Option Addr×Nat×HL,H'=ap [] [x.2.2.2]/\(u=.slice x.2.1 x.1.length x.2.2.1/\TicksL c x.1/\ClS dV 3 x.1 x.2.1 x.2.2.1 x.2.2.2)):=by
 have ahX:ks.length<=6000:=by have h_:=(hM.ticks (s8 ks) (List.mergeSort_perm _ _)).len;rwa [o0] at h_
 refine QH Tryz.func37 hbb<|Sr 11 [.ro 0]<|Ss (GB mb) ?_;rintro _ q1 rfl;refine Ss (Ll (Bm:=q1) (ay 0) hM.map (λ x hx=>aC (hTm x hx)) hM.rg ahX) ?_;rintro _ ⟨l2,A3,c4,T5⟩ ⟨rfl,hp6,hs7⟩;dsimp only at hp6 hs7;have aet:=(hM.ticks (s8 l2) ((List.mergeSort_perm _ _).trans hp6));have ahF:=aet.len;rw[o0] at ahF;refine Ss (Ak (A:=A3) c4 (xs:=l2) (hs7 _ (ar 0)) (by omega)) ?_;rintro _ ⟨A8,c9,VI⟩ ⟨rfl,Xn⟩;dsimp only at Xn;refine OG 3<|QI [] [] [0] (.slice A8 l2.length c9) (ap [] [VI]) ⟨(NM l2,A8,c9,VI),rfl,by rw[o0],aet,Xn⟩
theorem GC(bb:Nat) {mb:Nat}{c:Nat->List Eff}{ks:List Int}{f:Int->Option Value}(d:Nat)(F:HL)(hM:BoardM bd c mb ks f Tm Pl)(hc:∀t,(c t).length<=1000):af1 17 #[vP bb 0,vI (d:Int)] (ap [(bb,.lit [.map (some mb),vI bd] 103 (0,0))] [Tm,Pl]) F (λ u H'=>∃x:(Option Addr×Nat×HL)×HL,H'=ap [] [x.2,x.1.2.2]/\(u=.slice x.1.1 (cf c d).length x.1.2.1/\SlIs aB 112 (cf c d) x.1.1 x.1.2.1 x.1.2.2/\fg bb (max bd d) (fG c d) x.2)):=by
 refine QF Tryz.func17 mn<|Sr 16 [.o 0]<|aal ((d:Int)<=bd) 13 (λ h1=>?_) λ h1=>?_
 ·refine OG 6<|QI [] [0] [0,1] (.slice none 0 0) (ap [(bb,.lit [.map (some mb),vI bd] 103 (0,0))] [Tm,Pl]) ?_;obtain⟨Zv,XJ,e3_⟩:=hM.late (d:=d) (by omega);exact⟨((none,0,[]),ap [(bb,.lit [.map (some mb),vI bd] 103 (0,0))] [Tm,Pl]),by simp[ap],by rw[e3_];rfl,by rw[e3_];exact aas _ _,by rw[Zv,XJ];exact⟨_,_,_,_,_,rfl,hM⟩⟩
 ·refine OG 12<|Ss (tc (bb:=bb) hM (ay 0) (ar 0)) ?_;rintro _ ⟨l,At_,ct_,T2⟩ ⟨rfl,We,Z5⟩;dsimp only at We Z5;have aep:=We.len;refine OG 5<|aao<|aan (σ:=Nat×Option Addr×Nat×HL×List Int×(Int->Option Value)×HL) (λ ⟨i_,Vo,Vn,VH,ks_,f_,M_⟩=>⟨[(0,vP bb 0),(1,vI (d:Int)),(5,.slice Vo ((qI c (l.take i_)).length) Vn),(15,.slice At_ l.length ct_),(16,vI (l.length:Int)),(17,vI (i_:Int))],[(bb,.lit [.map (some mb),vI bd] 103 (0,0))],[VH,T2,M_,Pl],SlIs aB 112 (qI c (l.take i_)) Vo Vn VH/\ConfI d l ks f mb i_ ks_ f_ M_,l.length-i_⟩) (0,none,0,[],ks,f,Tm) [0] [0,1,2,3] (⟨aas _ _,Af hM.map⟩) ?_;rintro⟨i_,Vo,Vn,VH,ks_,f_,M_⟩ ⟨IT,X6⟩ Wx;have aix:=X6.le;refine OG 6<|aal ((i_:Int)<(l.length:Int)) 18 (λ h7=>?_) λ h7=>?_
  ·refine ae 6 [] λ _=>?_;obtain⟨bt_,rfl,rfl,abU⟩:=ClS.open Z5 (by omega);refine rz 1 (x:=(bt_,.rows 1 ct_ (aD dV l) 3 (0,0)))<|ah 14 [.ix i_,.row 0 i_ 0] [(0+i_*1)=i_*1+0/\i_<ct_,(i_:Int)=((i_:Nat):Int)/\i_<l.length] λ _=>aal ((l.getD i_ 0)>=(d:Int)) 23 (λ h8=>?_) λ h8=>?_
   ·refine Sr 23 [.o 1]<|QI [] [1] [1,2,0] (.slice Vo ((qI c (l.take i_)).length) Vn) (ap [(bb,.lit [.map (some mb),vI (d:Int)] 103 (0,0))] [M_,Pl,VH]) ?_;obtain⟨XG,eF_⟩:=X6.fin hM We (by omega);exact⟨((Vo,Vn,VH),ap [(bb,.lit [.map (some mb),vI (d:Int)] 103 (0,0))] [M_,Pl]),by simp[ap],by rw[<- eF_],by rw[<- eF_];exact IT,mb,ks_,f_,M_,Pl,by rw[show max bd (d:Int)=(d:Int) by omega],XG⟩
   ·refine ae 11 [.o 1] λ _=>?_;obtain⟨Ao_,no_,co_,ev_,Vt⟩:=X6.look hM We (by omega);have aef:=Vt.len;refine xf (k:=(l.getD i_ 0)) 1 Cw X6.map Tryz.underlying101 Lg ev_<|RN.appU (c':=co_) (tx:=45) fI (qI c (l.take i_)) (c (l.getD i_ 0).toNat) 0 rfl IT (by have VZ:=xh hc (l.take i_);have Ur:=hc (l.getD i_ 0).toNat;rw[aaN] at VZ;omega) (RowL.src fI (by decide) (Vt.mono (ar 2))) ?_;rintro A9 X9 Ub ⟨Yt,abr⟩;refine Sr 9 [.o 1]<|Ld (k:=(l.getD i_ 0)) 1 Cw X6.map Tryz.underlying101 λ M14 Y1=>ah 7 [.nw] [aX ((i_:Int)+1)] λ _=>p9 0<|aw 5 (congrArg (λ v_=>(.slice A9 v_ X9:Value)) (show (qI c (l.take i_)).length+(c (l.getD i_ 0).toNat).length=(qI c (l.take (i_+1))).length by rw[oX (by omega),aaK]))<|Wx (i_+1,A9,X9,Ub,ks_.filter (· ≠(l.getD i_ 0)),oS f_ (l.getD i_ 0),M14) [0] [2,0,1,3] ?_
    try dsimp only
    exact⟨⟨by rw[oX (by omega)];exact Yt,X6.next (by omega) (by omega) Y1⟩,by omega⟩
  ·refine Sr 21 [.o 0]<|QI [] [0] [2,3,0] (.slice Vo ((qI c (l.take i_)).length) Vn) (ap [(bb,.lit [.map (some mb),vI (d:Int)] 103 (0,0))] [M_,Pl,VH]) ?_;obtain⟨XG,eF_⟩:=X6.fin hM We (by omega);exact⟨((Vo,Vn,VH),ap [(bb,.lit [.map (some mb),vI (d:Int)] 103 (0,0))] [M_,Pl]),by simp[ap],by rw[<- eF_],by rw[<- eF_];exact IT,mb,ks_,f_,M_,Pl,by rw[show max bd (d:Int)=(d:Int) by omega],XG⟩
theorem p5{c:Nat->List Eff}(h:fg bb bd c G)(d:Nat)(F:HL) (hc:∀t,(c t).length<=1000):af1 17 #[vP bb 0,vI (d:Int)] (ap [] [G]) F (λ u H'=>∃x:(Option Addr×Nat×HL)×HL,H'=ap [] [x.2,x.1.2.2]/\(u=.slice x.1.1 (cf c d).length x.1.2.1/\SlIs aB 112 (cf c d) x.1.1 x.1.2.1 x.1.2.2/\fg bb (max bd d) (fG c d) x.2)):=by
 obtain⟨mb,ks,f,Tm,Pl,rfl,hM⟩:=h;exact Cx (bm) (GC bb d F hM hc)
theorem GD(bb:Nat) {mb:Nat}{c:Nat->List Eff}{ks:List Int}{f:Int->Option Value}(N:Nat)(F:HL)(hM:BoardM bd c mb ks f Tm Pl)(hc:∀t,(c t).length<=1000)(hN:∀t,N<=t->c t=[]):af1 21 #[vP bb 0] (ap [(bb,.lit [.map (some mb),vI bd] 103 (0,0))] [Tm,Pl]) F (λ u H'=>∃x:(Option Addr×Nat×HL)×HL,H'=ap [] [x.2,x.1.2.2]/\(u=.slice x.1.1 (cf c N).length x.1.2.1/\SlIs aB 112 (cf c N) x.1.1 x.1.2.1 x.1.2.2/\fg bb bd c x.2)):=by
 refine QF Tryz.func21 mn<|OG 14<|Ss (tc (bb:=bb) hM (ay 0) (ar 0)) ?_;rintro _ ⟨l,At_,ct_,T1⟩ ⟨rfl,Uy,hc3⟩;dsimp only at Uy hc3;have aep:=Uy.len;refine OG 5<|aao<|aan (σ:=Nat×Option Addr×Nat×HL) (λ ⟨i_,Vo,Vn,VH⟩=>⟨[(0,vP bb 0),(3,.slice Vo ((qI c (l.take i_)).length) Vn),(7,.slice At_ l.length ct_),(8,vI (l.length:Int)),(9,vI (i_:Int))],[(bb,.lit [.map (some mb),vI bd] 103 (0,0))],[VH,T1,Tm,Pl],i_<=l.length/\SlIs aB 112 (qI c (l.take i_)) Vo Vn VH,l.length-i_⟩) (0,none,0,[]) [0] [0,1,2,3] (⟨aaJ _,aas _ _⟩) ?_;rintro⟨i_,Vo,Vn,VH⟩ ⟨aix,IT⟩ Zk;refine OG 6<|aal ((i_:Int)<(l.length:Int)) 10 (λ h6=>?_) λ h6=>?_
 ·refine ae 6 [] λ _=>?_;obtain⟨bt_,rfl,rfl,abU⟩:=ClS.open hc3 (by omega);refine rz 1 (x:=(bt_,.rows 1 ct_ (aD dV l) 3 (0,0)))<|ah 13 [.ix i_,.row 0 i_ 0,.o 1] [(0+i_*1)=i_*1+0/\i_<ct_,(i_:Int)=((i_:Nat):Int)/\i_<l.length] λ _=>?_;obtain⟨Ao_,no_,co_,ev_,Vt⟩:=hM.look (i:=i_) Uy (by omega);have aef:=Vt.len;refine xf (k:=(l.getD i_ 0)) 1 Cw hM.map Tryz.underlying101 Lg ev_<|RN.appU (c':=co_) (tx:=45) fI (qI c (l.take i_)) (c (l.getD i_ 0).toNat) 0 rfl IT (by have VZ:=xh hc (l.take i_);have Ur:=hc (l.getD i_ 0).toNat;rw[aaN] at VZ;omega) (RowL.src fI (by decide) (Vt.mono (ar 2))) ?_;rintro A7 c8 T9 ⟨ahi,am1⟩;refine ah 8 [.nw] [aX ((i_:Int)+1)] λ _=>p9 0<|aw 3 (congrArg (λ v_=>(.slice A7 v_ c8:Value)) (show (qI c (l.take i_)).length+(c (l.getD i_ 0).toNat).length=(qI c (l.take (i_+1))).length by rw[oX (by omega),aaK]))<|Zk (i_+1,A7,c8,T9) [0] [1,0,2,3] ?_
  try dsimp only
  exact⟨⟨by omega,by rw[oX (by omega)];exact ahi⟩,by omega⟩
 ·refine OG 12<|QI [] [0] [2,3,0] (.slice Vo ((qI c (l.take i_)).length) Vn) (ap [(bb,.lit [.map (some mb),vI bd] 103 (0,0))] [Tm,Pl,VH]) ?_;have e_:qI c (l.take i_)=cf c N:=by rw[WP (by omega)];exact Uy.all hN
  exact⟨((Vo,Vn,VH),ap [(bb,.lit [.map (some mb),vI bd] 103 (0,0))] [Tm,Pl]),by simp[ap],by rw[<- e_],by rw[<- e_];exact IT,mb,ks,f,Tm,Pl,rfl,hM⟩
theorem GE{c:Nat->List Eff}(h:fg bb bd c G)(N:Nat) (hc:∀t,(c t).length<=1000) (hN:∀t,N<=t->c t=[]):af1 21 #[vP bb 0] (ap [] [G]) F (λ u H'=>∃x:(Option Addr×Nat×HL)×HL,H'=ap [] [x.2,x.1.2.2]/\(u=.slice x.1.1 (cf c N).length x.1.2.1/\SlIs aB 112 (cf c N) x.1.1 x.1.2.1 x.1.2.2/\fg bb bd c x.2)):=by
 obtain⟨mb,ks,f,Tm,Pl,rfl,hM⟩:=h;exact Cx (bm) (GD bb N F hM hc hN)
theorem Al{c:Nat->List Eff}(h:fg bb bd c G)(t:Nat) (cp:Nat){l:List Eff} (hl:RowL aB 112 F A n l) (ht:t<6000) (hb:bd<=(t:Int)) (hn:n<=40) (iN:∀i,i<n->(l.getD i aB.dflt).t=(t:Int)) (hc:(c t).length<=1000000) {r2:List Eff} (e1:jI (λ x=>(c t).count x) l=r1) (e2:jI (λ x=>l.count x) (c t)=r2):af1 13 #[vP bb 0,vI (t:Int),.slice A n cp] (ap [] [G]) F (λ u H'=>∃x:(Option Addr×Nat×HL)×(Option Addr×Nat×HL)×HL,H'=ap [] [x.2.2,x.1.2.2,x.2.1.2.2]/\(u=.tuple #[.slice x.1.1 r1.length x.1.2.1,.slice x.2.1.1 r2.length x.2.1.2.1,vI 0]/\SlIs aB 112 r1 x.1.1 x.1.2.1 x.1.2.2/\SlIs aB 112 r2 x.2.1.1 x.2.1.2.1 x.2.1.2.2/\fg bb bd (ff c t l) x.2.2)):=by
 subst e1 e2;exact p4 h t cp hl ht hb hn iN hc
theorem Am{c:Nat->List Eff}(h:fg bb bd c G)(d:Nat) (hc:∀t,(c t).length<=1000) (e1:cf c d=r1):af1 17 #[vP bb 0,vI (d:Int)] (ap [] [G]) F (λ u H'=>∃x:(Option Addr×Nat×HL)×HL,H'=ap [] [x.2,x.1.2.2]/\(u=.slice x.1.1 r1.length x.1.2.1/\SlIs aB 112 r1 x.1.1 x.1.2.1 x.1.2.2/\fg bb (max bd d) (fG c d) x.2)):=by
 subst e1;exact p5 h d F hc
theorem kO{B:Option Addr} (ca cb:Nat){es:List Eff}(ha:RowL aB 112 F A n es)(hb:RowL aB 112 F B n es)(hn:n<=1000000):af0 43 #[.slice A n ca,.slice B n cb] F (.bool true):=by
 refine QG Tryz.func43<|OG 15<|ci 10 (nt (abw (rfl:(n:Int)=(n:Int))))<|OG 10<|aan (σ:=Nat) (λ k_=>⟨[(0,.slice A n ca),(1,.slice B n cb),(5,vI (k_:Int))],[],[],k_<=n,n-k_⟩) 0 [] [] (aaJ _) ?_;rintro k_ hI1 Ue;refine OG 9<|aal ((k_:Int)<(n:Int)) 14 (λ h3=>?_) λ h3=>?_
 ·refine OG 6<|aak [] []<|afZ [0,1,4,5] ?_;obtain⟨qx4,IN,XK,fx4,acH,WO,VQ,abN,Xj⟩:=ha.at (k:=k_) (by omega);refine fM 17 (congrArg (λ v_=>(.slice v_ n ca:Value)) WO)<|RD.ro (λ _=>(mc VQ mn)) ?_;obtain⟨qx5,oF,U5,fx5,XY,Un,UH,XR,UX⟩:=hb.at (k:=k_) (by omega);refine fM 21 (congrArg (λ v_=>(.slice v_ n cb:Value)) Un)<|RD.ro (λ _=>(mc VQ (mc UH mn)))<|aH [] [2,6,3,7] [.ix k_,.ix k_,.rorow 0 (IN+k_) 0,.rorow 0 (IN+k_) 1,.rorow 0 (IN+k_) 2,.rorow 0 (IN+k_) 3,.rorow 1 (oF+k_) 0,.rorow 1 (oF+k_) 1,.rorow 1 (oF+k_) 2,.rorow 1 (oF+k_) 3] [((oF*4+k_*4)+3)=(oF+k_)*4+3/\(oF+k_)<U5,((oF*4+k_*4)+2)=(oF+k_)*4+2/\(oF+k_)<U5,((oF*4+k_*4)+1)=(oF+k_)*4+1/\(oF+k_)<U5,(oF*4+k_*4)=(oF+k_)*4+0/\(oF+k_)<U5,((IN*4+k_*4)+3)=(IN+k_)*4+3/\(IN+k_)<XK,((IN*4+k_*4)+2)=(IN+k_)*4+2/\(IN+k_)<XK,((IN*4+k_*4)+1)=(IN+k_)*4+1/\(IN+k_)<XK,(IN*4+k_*4)=(IN+k_)*4+0/\(IN+k_)<XK,(k_:Int)=((k_:Nat):Int)/\k_<n,(k_:Int)=((k_:Nat):Int)/\k_<n]<|fM 20 (congrArg (λ v_=>(.agg #[vI v_.t,vI v_.i,vI v_.k,vI v_.v]:Value)) Xj)<|fM 24 (congrArg (λ v_=>(.agg #[vI v_.t,vI v_.i,vI v_.k,vI v_.v]:Value)) UX) ?_;have ab5:(decide ((es.getD k_ aB.dflt).t=(es.getD k_ aB.dflt).t) && (decide ((es.getD k_ aB.dflt).i=(es.getD k_ aB.dflt).i) && (decide ((es.getD k_ aB.dflt).k=(es.getD k_ aB.dflt).k) && (decide ((es.getD k_ aB.dflt).v=(es.getD k_ aB.dflt).v) && true))))=true:=by simp
  refine af [] [8] [.sq]<|QQ 1<|ci 25 (nt ab5)<|ah 9 [.nw] [aX ((k_:Int)+1)] λ _=>Ue (k_+1) [] [] ?_
  try dsimp only
  exact⟨by omega,by omega⟩
 ·refine ae 11 [] λ _=>QJ _ _ ⟨rfl,rfl⟩
theorem An:af0 22 #[] F (.bool true):=by
 refine QG Tryz.func22<|ae 28 (ow 0 12) λ n1=>Ss (Aj) ?_;rintro _ ⟨b2,B3⟩ ⟨rfl,hB4⟩;dsimp only at hB4;refine ae 20 (ow 2 8++(ow 1 4)) λ n5=>aaj 0 (.rows 4 3 (aD aB ([⟨3,0,1,0⟩,⟨3,0,1,0⟩,⟨3,0,2,0⟩]:List Eff)) 112 (0,0))<|aai [] [0] (Al hB4 3 (A:=some ⟨(n5+0),0,none⟩) (n:=3) 3 (l:=([⟨3,0,1,0⟩,⟨3,0,1,0⟩,⟨3,0,2,0⟩]:List Eff)) (RowL.eff (q:=(n5+0)) (xs:=([⟨3,0,1,0⟩,⟨3,0,1,0⟩,⟨3,0,2,0⟩]:List Eff)) (ay 0) rfl) (by omega) (by omega) (by omega) (λ i hi=>by have XB:i=0\/i=1\/i=2:=(by omega);rcases XB with rfl|rfl|rfl <;> rfl) (by decide) (r1:=([⟨3,0,1,0⟩,⟨3,0,1,0⟩,⟨3,0,2,0⟩]:List Eff)) (r2:=([]:List Eff)) (by decide) (by decide)) ?_;rintro _ ⟨⟨A6,c7,T8⟩,⟨A9,X9,Ub⟩,G12⟩ ⟨rfl,ZN,WA,afn⟩;dsimp only at ZN WA afn;refine ae 15 (ow 3 4++ow 1 4) λ n16=>aaj 0 (.rows 4 2 (aD aB ([⟨3,0,1,0⟩,⟨3,0,3,0⟩]:List Eff)) 112 (0,0))<|aai [] [0] (Al afn 3 (A:=some ⟨(n16+0),0,none⟩) (n:=2) 2 (l:=([⟨3,0,1,0⟩,⟨3,0,3,0⟩]:List Eff)) (RowL.eff (q:=(n16+0)) (xs:=([⟨3,0,1,0⟩,⟨3,0,3,0⟩]:List Eff)) (ay 0) rfl) (by omega) (by omega) (by omega) (λ i hi=>by have XB:i=0\/i=1:=(by omega);rcases XB with rfl|rfl <;> rfl) (by decide) (r1:=([⟨3,0,3,0⟩]:List Eff)) (r2:=([⟨3,0,1,0⟩,⟨3,0,2,0⟩]:List Eff)) (by decide) (by decide)) ?_;rintro _ ⟨⟨Zy,Zg,Wv⟩,⟨A20,c21,Zi⟩,G23⟩ ⟨rfl,Xd,ad1,acC⟩;dsimp only at Xd ad1 acC;refine OG 10<|aak [31] [2,3,4]<|af [2,3,4] [0,1,2,3,4,5,6,7,8,9,10,11,12,13,14,15,16,17,18] (ow 2 4)<|aae 19 (aag [] [] λ n29=>?_);refine RD.dn 0 (.rows 4 1 (aD aB ([⟨3,0,3,0⟩]:List Eff)) 112 (0,0))<|aac [3,4,5] 20 (λ X_=>(kO (A:=Zy) (B:=some ⟨(n29+0),0,none⟩) (n:=1) Zg 1 (es:=([⟨3,0,3,0⟩]:List Eff)) (Xd.toRowL (aL 1)) (RowL.eff (q:=(n29+0)) (xs:=([⟨3,0,3,0⟩]:List Eff)) (eF 0) rfl) (by omega)))<|af [3,4,5] [21,22,23,24,25] (ow 5 4++ow 4 4)<|aae 26 (aag [] [] λ n30=>?_);refine RD.dn 0 (.rows 4 2 (aD aB ([⟨3,0,1,0⟩,⟨3,0,2,0⟩]:List Eff)) 112 (0,0))<|aac [4,5,6] 27 (λ X_=>(kO (A:=A20) (B:=some ⟨(n30+0),0,none⟩) (n:=2) c21 2 (es:=([⟨3,0,1,0⟩,⟨3,0,2,0⟩]:List Eff)) (ad1.toRowL (aL 2)) (RowL.eff (q:=(n30+0)) (xs:=([⟨3,0,1,0⟩,⟨3,0,2,0⟩]:List Eff)) (eF 0) rfl) (by omega)))<|af [4,5,6] [28,29,30,32,33] [.ro 2,.ro 2,.ro 2,.ro 2,.ro 0,.ro 0,.ro 0,.ro 0]<|fq 31 34 ?_ ?_
 ·refine aaf [4,5,6] [] [0] (Am acC 4 (lO (lO (λ _=>aaJ _) (by decide) 3) (by decide) 3) (r1:=([⟨3,0,1,0⟩,⟨3,0,3,0⟩]:List Eff)) (by decide)) ?_;rintro _ ⟨⟨A31,c32,T33⟩,G34⟩ ⟨rfl,adY,aoP⟩;dsimp only at adY;refine aae 34 (aag [] [] λ n37=>?_);refine RD.dn 0 (.rows 4 2 (aD aB ([⟨3,0,1,0⟩,⟨3,0,3,0⟩]:List Eff)) 112 (0,0))<|aae 35 (QP [] (D7 (kO (A:=A31) (B:=some ⟨(n37+0),0,none⟩) (n:=2) c32 2 (es:=([⟨3,0,1,0⟩,⟨3,0,3,0⟩]:List Eff)) (adY.toRowL (ar 1)) (RowL.eff (q:=(n37+0)) (xs:=([⟨3,0,1,0⟩,⟨3,0,3,0⟩]:List Eff)) (ay 0) rfl) (by omega))) ?_);rintro _ ⟨⟩ rfl;refine af [5,6,7] [36,37] []<|aad<|ae 1 [] λ _=>QJ _ _ ⟨rfl,rfl⟩
 ·refine aag [] [] λ n38=>RD.dn 0 (.rows 4 2 (aD aB ([⟨3,0,1,0⟩,⟨3,0,3,0⟩]:List Eff)) 112 (0,0))<|aae 31 (aaf [5,6,7] [] [0] (Am acC 4 (lO (lO (λ _=>aaJ _) (by decide) 3) (by decide) 3) (r1:=([⟨3,0,1,0⟩,⟨3,0,3,0⟩]:List Eff)) (by decide)) ?_);rintro _ ⟨⟨A39,c40,T41⟩,G42⟩ ⟨rfl,adX,aoO⟩;dsimp only at adX;refine aae 35 (QP [] (D7 (kO (A:=A39) (B:=some ⟨(n38+0),0,none⟩) (n:=2) c40 2 (es:=([⟨3,0,1,0⟩,⟨3,0,3,0⟩]:List Eff)) (adX.toRowL (ar 1)) (RowL.eff (q:=(n38+0)) (xs:=([⟨3,0,1,0⟩,⟨3,0,3,0⟩]:List Eff)) (ay 0) rfl) (by omega))) ?_);rintro _ ⟨⟩ rfl;refine af [5,6,7] [36,37] []<|aad<|ae 1 [] λ _=>QJ _ _ ⟨rfl,rfl⟩
theorem GG {w:Nat}(F:HL)(hw:1<=w/\w<=13):af1 28 #[vP mb 0,vI (w:Int)] [] F (λ u H'=>∃b:Nat,H'=ap [(b,.lit [vP mb 0,vI (w:Int),.slice none 0 0] 140 (0,0))] []/\u=vP b 0):=by
 refine QG Tryz.func28<|OG 11<|aw 8 (congrArg (λ v_=>(vI v_:Value)) (show (if (if 13<(w:Int) then 13 else (w:Int))>1 then (if 13<(w:Int) then 13 else (w:Int)) else 1)=(w:Int) by (repeat' split) <;> omega))<|ae 5 [] λ n1=>QI [] [0] [] (vP (n1+0) 0) (ap [((n1+0),.lit [vP mb 0,vI (w:Int),.slice none 0 0] 140 (0,0))] []) ⟨_,rfl,rfl⟩
theorem vE(w:Nat)(hw:1<=w/\w<=13):af1 28 #[vP mb 0,vI (w:Int)] (ap [] []) F (λ u H'=>∃x:Nat×HL,H'=ap [] [x.2]/\(u=vP x.1 0/\RingH x.1 mb w 0 [] x.2)):=(GG mb F hw).mono λ u H' h=>by
 obtain⟨b,rfl,hse_⟩:=h;refine⟨(b,ap [(b,.lit [vP mb 0,vI (w:Int),.slice none 0 0] 140 (0,0))] [[]]),by simp[ap],hse_,?_⟩;exact RingH.mk (n:=0) (SlX.nil _ _) rfl (λ _=>⟨rfl,rfl,rfl⟩)
theorem Ao{S:Setup}{rs:List Bx}{ds:List Dr}(bp:Nat) {pl:Nat} (me w:Nat)(J:Nat->Nat×Int)(hS:SetCl F S)(hM:MapIn F S rs ds)(h1:1<=S.nb)(Vu:S.rn<=1000000)(Zr:S.dn<=1000000)(L_:(sizeOf S).toNat<=1000000)(hv:oq S rs ds=0)(hpl:S.players=(pl:Int))(Wd:me<pl)(hw:1<=w/\w<=12):af1 8 #[Setup.v S,vP bp 0,vI (me:Int),vI (w:Int)] (ap [] []) F (λ u H'=>∃x:Nat×HL,H'=ap [] [x.2]/\(u=.tuple #[vP x.1 0,vI 0]/\PeerR rs ds bp x.1 pl me w S J (⟨⟨bz S S.nb,[],0⟩,0,[],[],0,[],[],0⟩:PS (List Inp)) ([]) 0 0 none x.2)):=by
 have an2:=jQ S S.nb;refine QG Tryz.func8<|ae 11 (ow 0 16) λ n1=>Ss (sa bp hS.up hM.up h1 Vu Zr L_ hv 99020000 (by decide)) ?_;rintro _ ⟨g2,S3,T4⟩ ⟨rfl,he5,hG6⟩;dsimp only at he5 hG6;obtain⟨adA,abu⟩:=hG6.x;refine OG 23<|aal ((me:Int)<0) 24 (λ h7=>?_) λ h7=>?_
 ·(exfalso;omega)
 ·refine Sr 7 [.o 0]<|aal ((me:Int)>=S.players) 29 (λ h8=>?_) λ h8=>?_
  ·(exfalso;omega)
  ·refine OG 9<|aal ((w:Int)<1) 32 (λ h9=>?_) λ h9=>?_
   ·(exfalso;omega)
   ·refine OG 5<|aal ((w:Int)>12) 35 (λ UE=>?_) λ UE=>?_
    ·(exfalso;omega)
    ·refine Sr 7 (ow 0 16)<|Ss (sa bp hS.up hM.up h1 Vu Zr L_ hv 99020000 (by decide)) ?_;rintro _ ⟨g11,S12,U2⟩ ⟨rfl,ab7,afh⟩;dsimp only at ab7 afh;obtain⟨amO,adK⟩:=afh.x;refine OG 18<|aak [] []<|af [] [0,2,3,4,5,7,10,1] [.o 0]<|aac [] 6 (λ X_=>(Si abu (aL 1)))<|fq 8 9 ?_ ?_
     ·refine QP [] (vE adA w (by omega)) ?_;rintro _ ⟨b16,V8⟩ ⟨rfl,aek⟩;dsimp only at aek;refine aae 9 (aag [] [] λ n19=>?_);refine fM 46 (congrArg (λ v_=>(vI v_:Value)) hpl)<|afZ [11]<|aae 12 (aag [] [] λ XN=>?_);refine afZ [13,14]<|QQ 1<|QI [] [0,1] [2,0,1] (.tuple #[vP (XN+0) 0,vI 0]) (ap [((XN+0),.lit [vI (pl:Int),vI (me:Int),vI (w:Int),vP g2 0,vP b16 0,.map (some (n19+0)),.slice none 0 0,vI 0,.slice none 0 0,.slice none 0 0,vI 0,vP g11 0] 100 (0,0)),((n19+0),.obj (bG [] 0))] [T4,V8,U2]) ⟨((XN+0),ap [((XN+0),.lit [vI (pl:Int),vI (me:Int),vI (w:Int),vP g2 0,vP b16 0,.map (some (n19+0)),.slice none 0 0,vI 0,.slice none 0 0,.slice none 0 0,vI 0,vP g11 0] 100 (0,0)),((n19+0),.obj (bG [] 0))] [T4,V8,[],[],[],[],[],U2]),by simp[ap],rfl,PeerR.mk (P:=(⟨⟨bz S S.nb,[],0⟩,0,[],[],0,[],[],0⟩:PS (List Inp))) (rl:=[]) (ul:=[]) (el:=[]) rfl rfl rfl rfl rfl he5 (abu.weak (aaJ _)) ⟨ac5 0,ac5 0⟩ aek LocIn.nil (aas _ _) rfl RwsT.nil (SlX.nil _ _) rfl RwsT.nil (aas _ _) rfl EfsT.nil ab7 adK rfl (aaI _) ⟨ac5 0,ac5 0⟩ hpl (λ _ _ h_=>by cases h_)⟩
     ·refine aag [] [] λ Uc=>aae 8 (QP [] (vE adA w (by omega)) ?_);rintro _ ⟨b22,X1⟩ ⟨rfl,aej⟩;dsimp only at aej;refine fM 46 (congrArg (λ v_=>(vI v_:Value)) hpl)<|afZ [11]<|aae 12 (aag [] [] λ n25=>?_);refine afZ [13,14]<|QQ 1<|QI [] [0,1] [2,0,1] (.tuple #[vP (n25+0) 0,vI 0]) (ap [((n25+0),.lit [vI (pl:Int),vI (me:Int),vI (w:Int),vP g2 0,vP b22 0,.map (some (Uc+0)),.slice none 0 0,vI 0,.slice none 0 0,.slice none 0 0,vI 0,vP g11 0] 100 (0,0)),((Uc+0),.obj (bG [] 0))] [T4,X1,U2]) ⟨((n25+0),ap [((n25+0),.lit [vI (pl:Int),vI (me:Int),vI (w:Int),vP g2 0,vP b22 0,.map (some (Uc+0)),.slice none 0 0,vI 0,.slice none 0 0,.slice none 0 0,vI 0,vP g11 0] 100 (0,0)),((Uc+0),.obj (bG [] 0))] [T4,X1,[],[],[],[],[],U2]),by simp[ap],rfl,PeerR.mk (P:=(⟨⟨bz S S.nb,[],0⟩,0,[],[],0,[],[],0⟩:PS (List Inp))) (rl:=[]) (ul:=[]) (el:=[]) rfl rfl rfl rfl rfl he5 (abu.weak (aaJ _)) ⟨ac5 0,ac5 0⟩ aej LocIn.nil (aas _ _) rfl RwsT.nil (SlX.nil _ _) rfl RwsT.nil (aas _ _) rfl EfsT.nil ab7 adK rfl (aaI _) ⟨ac5 0,ac5 0⟩ hpl (λ _ _ h_=>by cases h_)⟩
end Go.Proofs.YtjokannbjmndfaaGreatDoor
