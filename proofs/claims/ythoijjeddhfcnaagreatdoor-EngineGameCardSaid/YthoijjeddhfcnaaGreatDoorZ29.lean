import Derived.Test.YthoijjeddhfcnaaGreatDoorZ28
import Derived.Test.YthoijjeddhfcnaaGreatDoorProg
import Derived.Test.YthoijjeddhfcnaaGreatDoorZ19
import Derived.Test.YthoijjeddhfcnaaGreatDoorZ08
set_option maxHeartbeats 4000000
set_option maxRecDepth 100000
set_option linter.unusedSimpArgs false
set_option linter.unusedVariables false
namespace Go.Proofs.YthoijjeddhfcnaaGreatDoor
open Go.RowKit
noncomputable section
def iv(x:Int):Value:=.int .i64 x
def tW:List Value:=[iv 0,iv 0,iv 0,iv 1,iv 0,iv 1,iv 1,iv 0,iv 1,iv 1,iv 2,iv 0,iv 0,iv 1,iv 0,iv 1,iv 0,iv 1,iv 2,iv 1,iv 2,iv 1,iv 2,iv 1,iv 2,iv 1,iv 1,iv 1,iv 2,iv 1,iv 2,iv 1,iv 2,iv 1,iv 1,iv 1,iv 0,iv 0,iv 1,iv 0,iv 2,iv 0,iv 0,iv 0]
def lR:List PB:=[(0,tW,213)]
def NH:String:="on tick { n = n + 1; if n >= 3 { effect 1, n; n = 0; } }"
def NI:String:="on act { vx[self] = vx[self] + 100 * other; effect 2, self; } on hit { a[self] = a[self] + 1; effect 3, other; }"
def NJ:String:="on hit { if hit[other] == self + 1 && a[self] < a[other] { vx[self] = -vx[self]; b[self] = tick; } else { stop; } effect 4, a[self]; }"
def NK:String:="on tick { i = 0; while i < 4 { b[i] = b[i] + still[i]; i = i + 1; } s = s + x[0] / 100; effect 5, s; } on act { s = 0; }"
def NL:List Value:=[iv 2,iv 0,iv 1,iv 1,iv 9,iv 0,iv 3,iv 0,iv 1,iv 3,iv 2,iv 0,iv 15,iv 0,iv 19,iv 14,iv 1,iv 1,iv 2,iv 0,iv 20,iv 0,iv 1,iv 0,iv 3,iv 0,iv 18,iv 14,iv 21,iv 0]
def NM:List Value:=[iv 6,iv 0,iv 6,iv 0,iv 4,iv 2,iv 1,iv 100,iv 7,iv 0,iv 11,iv 0,iv 9,iv 0,iv 5,iv 2,iv 1,iv 2,iv 6,iv 0,iv 20,iv 0,iv 21,iv 0,iv 6,iv 0,iv 6,iv 0,iv 4,iv 4,iv 1,iv 1,iv 9,iv 0,iv 5,iv 4,iv 1,iv 3,iv 7,iv 0,iv 20,iv 0,iv 21,iv 0]
def NN:List Value:=[iv 7,iv 0,iv 4,iv 6,iv 6,iv 0,iv 1,iv 1,iv 9,iv 0,iv 16,iv 0,iv 19,iv 13,iv 6,iv 0,iv 4,iv 4,iv 7,iv 0,iv 4,iv 4,iv 14,iv 0,iv 18,iv 14,iv 1,iv 0,iv 19,iv 24,iv 6,iv 0,iv 6,iv 0,iv 4,iv 2,iv 13,iv 0,iv 5,iv 2,iv 6,iv 0,iv 8,iv 0,iv 5,iv 5,iv 18,iv 25,iv 21,iv 0,iv 1,iv 4,iv 6,iv 0,iv 4,iv 4,iv 20,iv 0,iv 21,iv 0]
def NO:List Value:=[iv 1,iv 0,iv 3,iv 0,iv 21,iv 0,iv 1,iv 0,iv 3,iv 1,iv 2,iv 1,iv 1,iv 4,iv 14,iv 0,iv 19,iv 21,iv 2,iv 1,iv 2,iv 1,iv 4,iv 5,iv 2,iv 1,iv 4,iv 7,iv 9,iv 0,iv 5,iv 5,iv 2,iv 1,iv 1,iv 1,iv 9,iv 0,iv 3,iv 1,iv 18,iv 5,iv 2,iv 0,iv 1,iv 0,iv 4,iv 0,iv 1,iv 100,iv 12,iv 0,iv 9,iv 0,iv 3,iv 0,iv 1,iv 5,iv 2,iv 0,iv 20,iv 0,iv 21,iv 0]
def CA(h len:Nat)(a b c:Int):Value:=.tuple ⟨[.agg ⟨[.slice (some ⟨h,0,none⟩) len lm,iv a,iv b,iv c]⟩,iv 0]⟩
def Pg:Value:=.tuple ⟨[.agg ⟨[.slice none 0 0,iv (-1),iv (-1),iv (-1)]⟩,iv 0]⟩
def sG(src:String)(picks:List PB)(v:Value):Bool:=I3 lR picks v (Cz Tryz.prog 3 100000 (.fn 22 [.string src.toUTF8] (tV lR) 3))
theorem mixed:Tryz.prog.follows .mixedOrders=true:=by kernel_rfl
theorem o0{src:String}{h:Nat}{cod:List Value}{ty:TypeId}{v:Value}{F:HL}(hh:h≠0)(hq:sG src [(h,cod,ty)] v=true) :
  Sp Tryz.prog 22 #[.string src.toUTF8] (lR.map ne) F λ v' H'=>∃ν rest,v'=lK ν v /\ H'=lR.map ne++[qm ν rest (h,cod,ty)] :=
 nS (G:=3) (tabs:=lR) (picks:=[(h,cod,ty)]) mixed rfl rfl rfl (by simp[lR,hh.symm]) hq
theorem I4:sG "" [] Pg=true:=by kernel_rfl
end
theorem I5:sG NH [(1095,NL,98)] (CA 1095 15 (-1) 0 (-1))=true:=by kernel_rfl
theorem I6:sG NI [(1804,NM,98)] (CA 1804 22 0 (-1) 12)=true:=by kernel_rfl
theorem I7:sG NJ [(2348,NN,98)] (CA 2348 30 (-1) (-1) 0)=true:=by kernel_rfl
theorem I8:sG NK [(2279,NO,98)] (CA 2279 32 0 3 (-1))=true:=by kernel_rfl
noncomputable section
def qo:Nat -> ByteArray
 | 0=>"".toUTF8
 | 1=>NH.toUTF8
 | 2=>NI.toUTF8
 | 3=>NJ.toUTF8
 | _=>NK.toUTF8
def F6:Nat -> List Value
 | 0=>[]
 | 1=>NL
 | 2=>NM
 | 3=>NN
 | _=>NO
def eO:Nat -> Nat
 | 0=>0
 | 1=>15
 | 2=>22
 | 3=>30
 | _=>32
def I9:Nat -> List Value
 | 0=>[iv (-1),iv (-1),iv (-1)]
 | 1=>[iv (-1),iv 0,iv (-1)]
 | 2=>[iv 0,iv (-1),iv 12]
 | 3=>[iv (-1),iv (-1),iv 0]
 | _=>[iv 0,iv 3,iv (-1)]
inductive PrgV(j:Nat):Value -> HL -> Prop
 | nil:j=0 -> PrgV j (.slice none 0 0) []
 | some (b cap:Nat) (rest:List Value):PrgV j (.slice (some ⟨b,0,none⟩) (eO j) cap) [(b,.lit (F6 j++rest) 98 (0,0))]
theorem lB(ν:Nu)(h len:Nat)(a b c:Int):lK ν (CA h len a b c)=.tuple ⟨[.agg ⟨[.slice (some ⟨tT ν h,0,none⟩) len (Pf ν h lm),iv a,iv b,iv c]⟩,iv 0]⟩:=by
 simp only[CA,lK,FZ,F3,iv]
theorem F7{j:Nat}(hj:j<5){F:HL}:Sp Tryz.prog 22 #[.string (qo j)] (lR.map ne) F λ u H'=>∃s Hp,PrgV j s Hp /\ u=.tuple ⟨[.agg ⟨s::I9 j⟩,iv 0]⟩ /\ H'=lR.map ne++Hp:=by
 match j,hj with
 | 0,_ =>
  refine(nS (G:=3) (tabs:=lR) (picks:=[]) mixed rfl rfl rfl (by simp[lR]) I4).mono ?_
  rintro u H' ⟨ν,rest,rfl,rfl⟩
  exact⟨_,[],.nil rfl,rfl,rfl⟩
 | 1,_ =>
  refine(o0 (by decide) I5).mono ?_
  rintro u H' ⟨ν,rest,rfl,rfl⟩
  exact⟨_,_,.some _ _ _,lB ..,rfl⟩
 | 2,_ =>
  refine(o0 (by decide) I6).mono ?_
  rintro u H' ⟨ν,rest,rfl,rfl⟩
  exact⟨_,_,.some _ _ _,lB ..,rfl⟩
 | 3,_ =>
  refine(o0 (by decide) I7).mono ?_
  rintro u H' ⟨ν,rest,rfl,rfl⟩
  exact⟨_,_,.some _ _ _,lB ..,rfl⟩
 | 4,_ =>
  refine(o0 (by decide) I8).mono ?_
  rintro u H' ⟨ν,rest,rfl,rfl⟩
  exact⟨_,_,.some _ _ _,lB ..,rfl⟩
theorem Ja{j:Nat}(hj:j<5){F:HL}(hF:(0,Blk.lit tW 213 (0,0))∈F):Sp Tryz.prog 22 #[.string (qo j)] [] F λ u H'=>∃s,PrgV j s H' /\ u=.tuple ⟨[.agg ⟨s::I9 j⟩,iv 0]⟩ :=
 F5 hF λ F0=>(F7 hj).mono λ u H' ⟨s,Hp,h1,h2,h3⟩=>⟨Hp,⟨s,h1,h2⟩,h3⟩
end
def bC(j k:Nat):Int:=match (I9 j)[k]? with|some (.int _ x)=>x|_=>0
def Kl:List Value -> List Ins
 | .int _ a :: .int _ b::r=>⟨a,b⟩::Kl r
 | _=>[]
def jF(j:Nat):List Ins:=Kl (F6 j)
theorem wD:∀ {j:Nat},j<5 -> (jF j).length=eO j
 | 0,_=>by kernel_rfl
 | 1,_=>by kernel_rfl
 | 2,_=>by kernel_rfl
 | 3,_=>by kernel_rfl
 | 4,_=>by kernel_rfl
 | j+5,h=>absurd h (by omega)
theorem yJ:∀ {j:Nat},j<5 -> F6 j=aE kG (jF j)
 | 0,_=>by kernel_rfl
 | 1,_=>by kernel_rfl
 | 2,_=>by kernel_rfl
 | 3,_=>by kernel_rfl
 | 4,_=>by kernel_rfl
 | j+5,h=>absurd h (by omega)
theorem Av:∀ {j:Nat},j<5 -> eO j <= 32
 | 0,_=>by decide
 | 1,_=>by decide
 | 2,_=>by decide
 | 3,_=>by decide
 | 4,_=>by decide
 | j+5,h=>absurd h (by omega)
theorem Jb:∀ {j:Nat},j<5 -> I9 j=[vI (bC j 0),vI (bC j 1),vI (bC j 2)]
 | 0,_=>by kernel_rfl
 | 1,_=>by kernel_rfl
 | 2,_=>by kernel_rfl
 | 3,_=>by kernel_rfl
 | 4,_=>by kernel_rfl
 | j+5,h=>absurd h (by omega)
abbrev wE(F:HL):Prop:=(0,Blk.lit tW 213 (0,0))∈F
def Ph(F:HL)(j:Nat)(A:Option Addr):Prop:=0<eO j -> ∃b rest,A=some ⟨b,0,none⟩ /\ (b,Blk.lit (F6 j++rest) 98 (0,0))∈F
structure CodT(j:Nat)(A:Option Addr)(T:HL):Prop where
 src:∀F,(∀x∈T,x∈F) -> SrcIn Tryz.prog kG F A (eO j) (jF j)
 wrd:∀F,(∀x∈T,x∈F) -> Ph F j A
theorem LQ{j:Nat}(hj:j<5)(F:HL)(hE:wE F):Sp Tryz.prog 22 #[.string (qo j)] (ap [] []) F (λ u H'=>∃x:Option Addr × Nat × HL,H'=ap [] [x.2.2] /\ (u=.tuple #[.agg #[.slice x.1 (eO j) x.2.1,vI (bC j 0),vI (bC j 1),vI (bC j 2)],vI 0] /\ CodT j x.1 x.2.2)):=by
 refine(Ja hj hE).mono ?_
 rintro u H' ⟨s,hp,rfl⟩
 rw[Jb hj]
 cases hp with
 | nil h0 =>
  subst h0
  exact⟨(none,0,[]),(dS _).symm,rfl,⟨λ F hF=>SrcIn.none,λ F hF h=>absurd h (by decide)⟩⟩
 | some b cap rest =>
  refine⟨(some ⟨b,0,none⟩,cap,[(b,.lit (F6 j++rest) 98 (0,0))]),(dS _).symm,rfl,⟨λ F hF=>?_,λ F hF h=>⟨b,rest,rfl,hF _ (List.mem_singleton.2 rfl)⟩⟩⟩
  have h:=SrcIn.lit DW (xs:=jF j) (rest:=rest) (ty:=98) (fz:=(0,0)) (F:=F) (q:=b) (by rw[<- yJ hj];exact hF _ (List.mem_singleton.2 rfl))
  rw[wD hj] at h
  exact h
inductive Book1(j bp:Nat):HL -> Prop
 | mk (q:Nat) (A:Option Addr) (c:Nat) (T:HL) (h:CodT j A T):Book1 j bp (ap [(bp,.lit [vS q 0 1 1] 80 (0,0)),(q,.lit [vI 0,.slice A (eO j) c,vI (bC j 0),vI (bC j 1),vI (bC j 2)] 77 (0,0))] [T])
def LS:List Value:=[.string ⟨#[]⟩,.string ⟨#[111,110,32,116,105,99,107,32,123,32,110,32,61,32,110,32,43,32,49,59,32,105,102,32,110,32,62,61,32,51,32,123,32,101,102,102,101,99,116,32,49,44,32,110,59,32,110,32,61,32,48,59,32,125,32,125]⟩,.string ⟨#[111,110,32,97,99,116,32,123,32,118,120,91,115,101,108,102,93,32,61,32,118,120,91,115,101,108,102,93,32,43,32,49,48,48,32,42,32,111,116,104,101,114,59,32,101,102,102,101,99,116,32,50,44,32,115,101,108,102,59,32,125,32,111,110,32,104,105,116,32,123,32,97,91,115,101,108,102,93,32,61,32,97,91,115,101,108,102,93,32,43,32,49,59,32,101,102,102,101,99,116,32,51,44,32,111,116,104,101,114,59,32,125]⟩,.string ⟨#[111,110,32,104,105,116,32,123,32,105,102,32,104,105,116,91,111,116,104,101,114,93,32,61,61,32,115,101,108,102,32,43,32,49,32,38,38,32,97,91,115,101,108,102,93,32,60,32,97,91,111,116,104,101,114,93,32,123,32,118,120,91,115,101,108,102,93,32,61,32,45,118,120,91,115,101,108,102,93,59,32,98,91,115,101,108,102,93,32,61,32,116,105,99,107,59,32,125,32,101,108,115,101,32,123,32,115,116,111,112,59,32,125,32,101,102,102,101,99,116,32,52,44,32,97,91,115,101,108,102,93,59,32,125]⟩,.string ⟨#[111,110,32,116,105,99,107,32,123,32,105,32,61,32,48,59,32,119,104,105,108,101,32,105,32,60,32,52,32,123,32,98,91,105,93,32,61,32,98,91,105,93,32,43,32,115,116,105,108,108,91,105,93,59,32,105,32,61,32,105,32,43,32,49,59,32,125,32,115,32,61,32,115,32,43,32,120,91,48,93,32,47,32,49,48,48,59,32,101,102,102,101,99,116,32,53,44,32,115,59,32,125,32,111,110,32,97,99,116,32,123,32,115,32,61,32,48,59,32,125]⟩]
def LT:Nat -> Nat -> Value:=λ i k=>match k with|0=>.string (qo i)|_=>default
theorem wF(F:HL):Sp Tryz.prog 23 #[] [] F (λ u H'=>∃q:Nat,H'=ap [(q,.lit LS 9 (0,0))] [] /\ u=vS q 0 5 5):=by
 refine Sp.run Tryz.func23 rfl mn (A:=[]) (Ts:=[]) rfl λ w0=>?_
 refine aa 11 [] λ n1=>RN.ret [] [0] [] (v:=vS (n1+0) 0 5 5) (H':=(ap [((n1+0),.lit LS 9 (0,0))] [])) ?_
 exact⟨_,rfl,rfl⟩
theorem yK(F:HL):Sp Tryz.prog 23 #[] (ap [] []) F (λ u H'=>∃q:Nat,H'=ap [(q,.lit LS 9 (0,0))] [] /\ u=vS q 0 5 5):=wF F
theorem yL(n:Int)(F:HL)(hn:pA n):Sp Tryz.prog 6 #[vI n] [] F (λ u H'=>u=.string (qo (aP n 5).toNat) /\ H'=[]):=by
 refine Sp.run Tryz.func6 rfl mn (A:=[]) (Ts:=[]) rfl λ w0=>?_
 refine aa 7 [] λ _=>RN.ct (Hp:=[]) (Tp:=[]) [] [] (yK _) ?_
 rintro _ q1 rfl
 refine aa 1 [] λ _=>al (fZ n 5 (by decide) _) ?_
 have hA2:=fl (n:=n) hn 5 (by decide)
 refine RN.dn 0 (.rows 1 5 LT 9 (0,0))<|aq 5 [.ix ((aP n 5).toNat),.row 0 ((aP n 5).toNat) 0] [(0+((aP n 5).toNat)*1)=((aP n 5).toNat)*1+0 /\ ((aP n 5).toNat)<5,aP n 5=(((aP n 5).toNat:Nat):Int) /\ (aP n 5).toNat<5] λ _=>?_
 exact RN.ret [] [] [] ⟨rfl,rfl⟩
theorem F8(j:Nat)(F:HL)(hj:j<5)(hE:wE F):Sp Tryz.prog 5 #[.string (qo j)] [] F (λ u H'=>∃x:Nat × HL,H'=ap [] [x.2] /\ (u=.tuple #[vP x.1 0,vI 0] /\ Book1 j x.1 x.2)):=by
 refine Sp.run Tryz.func5 rfl mn (A:=[]) (Ts:=[]) rfl λ w0=>?_
 refine aa 9 [] λ _=>RN.ct (Hp:=[]) (Tp:=[]) [] [] (LQ hj _ (bK hE)) ?_
 rintro _ ⟨A1,c2,T3⟩ ⟨rfl,hC4⟩
 dsimp only at hC4
 refine aa 29 (ow 0 8) λ n5=>RN.ret [] [0,1] [0] (v:=.tuple #[vP (n5+2) 0,vI 0]) (H':=(ap [((n5+2),.lit [vS (n5+1) 0 1 1] 80 (0,0)),((n5+1),.lit [vI 0,.slice A1 (eO j) c2,vI (bC j 0),vI (bC j 1),vI (bC j 2)] 77 (0,0))] [T3])) ?_
 exact⟨((n5+2),ap [((n5+2),.lit [vS (n5+1) 0 1 1] 80 (0,0)),((n5+1),.lit [vI 0,.slice A1 (eO j) c2,vI (bC j 0),vI (bC j 1),vI (bC j 2)] 77 (0,0))] [T3]),by simp[ap],rfl,.mk _ _ _ _ hC4⟩
theorem F9(j:Nat)(F:HL)(hj:j<5)(hE:wE F):Sp Tryz.prog 5 #[.string (qo j)] (ap [] []) F (λ u H'=>∃x:Nat × HL,H'=ap [] [x.2] /\ (u=.tuple #[vP x.1 0,vI 0] /\ Book1 j x.1 x.2)):=F8 j F hj hE
theorem Ga(q2 q3 bp q j:Nat)(A:Option Addr)(c:Nat)(t:Int)(F:HL)(h2:(q2,.lit [vP bp 0] 33 (0,0))∈F)(h3:(q3,.lit [vI t] 3 (0,0))∈F)(hb:(bp,.lit [vS q 0 1 1] 80 (0,0))∈F)(hq:(q,.lit [vI 0,.slice A (eO j) c,vI (bC j 0),vI (bC j 1),vI (bC j 2)] 77 (0,0))∈F)(ht:0 <= t):Sp Tryz.prog 30 #[vI 0,vP q2 0,vP q3 0] [] F (λ u H'=>u=.bool false /\ H'=[]):=by
 refine Sp.run Tryz.func30 rfl (mc h2 (mc h3 (mc hb (mc hq mn)))) (A:=[]) (Ts:=[]) rfl λ w0=>?_
 refine aa 6 [] λ _=>RN.draw [] []<|af [] [0,4,8,1,2,3,5,6,7,9,10] [.ro 0,.ro 1,.ro 2,.ro 3]<|RD.fin<|aa 1 [] λ _=>RN.ret [] [] [] (v:=.bool (decide (0>t))) (H':=[]) ?_
 exact⟨congrArg Value.bool (decide_eq_false (by omega)),rfl⟩
theorem wG(q2 q3 bp q j:Nat)(A:Option Addr)(c:Nat)(t:Int)(F:HL)(h2:(q2,.lit [vP bp 0] 33 (0,0))∈F)(h3:(q3,.lit [vI t] 3 (0,0))∈F)(hb:(bp,.lit [vS q 0 1 1] 80 (0,0))∈F)(hq:(q,.lit [vI 0,.slice A (eO j) c,vI (bC j 0),vI (bC j 1),vI (bC j 2)] 77 (0,0))∈F)(ht:0 <= t):Sp Tryz.prog 29 #[vI 1,.func (.func 30) #[] #[vP q2 0,vP q3 0]] [] F (λ u H'=>u=vI 1 /\ H'=[]):=by
 refine Sp.run Tryz.func29 rfl (mc h2 (mc h3 (mc hb (mc hq mn)))) (A:=[]) (Ts:=[]) rfl λ w0=>?_
 refine aa 14 [] λ _=>RN.rounds 3<|aa 27 [] λ _=>al (Ga q2 q3 bp q j A c t _ (bK h2) (bK h3) (bK hb) (bK hq) ht)<|aa 31 [] λ _=>?_
 exact RN.ret [] [] [] ⟨rfl,rfl⟩
theorem Jc(bp q j:Nat)(A:Option Addr)(c:Nat)(t:Int)(F:HL)(hb:(bp,.lit [vS q 0 1 1] 80 (0,0))∈F)(hq:(q,.lit [vI 0,.slice A (eO j) c,vI (bC j 0),vI (bC j 1),vI (bC j 2)] 77 (0,0))∈F)(ht:0 <= t)(hj:j<5)(hC:SrcIn Tryz.prog kG F A (eO j) (jF j)):Sp Tryz.prog 12 #[vP bp 0,vI t] [] F (λ u H'=>∃x:Option Addr × Nat × HL,H'=ap [] [x.2.2] /\ (u=.tuple #[vI 0,.agg #[.slice x.1 (eO j) x.2.1,vI (bC j 0),vI (bC j 1),vI (bC j 2)]] /\ ClS kG 98 (jF j) x.1 x.2.1 x.2.2)):=by
 refine Sp.run Tryz.func12 rfl (mc hb (mc hq mn)) (A:=[]) (Ts:=[]) rfl λ w0=>?_
 refine aa 16 [.own 2,.ro 0] λ n1=>al (wG (n1+0) (n1+1) bp q j A c t _ (aC 2) (aC 1) (bK hb) (bK hq) ht)<|aa 26 [.own 2,.ro 0,.ro 1,.ro 1,.ro 1,.ro 1,.own 0,.own 0,.own 0,.own 0] λ n2=>RN.draw [8] []<|af [] [0,1,4,2,5] [.own 0,.own 0,.own 0,.own 0]<|RD.one 3 (RDO.ct [] (Hp:=[]) (Tp:=[]) [] [] (qW A (eO j) c (jF j) _ hC.up (by have:=Av hj;omega)) ?_)
 rintro _ ⟨A3,c4,T5⟩ ⟨rfl,hc6⟩
 dsimp only at hc6
 refine af [] [6,7] []<|RD.one 8 (RDO.ev [] [.own 1,.own 1,.own 1,.own 1] λ _=>?_)
 refine RD.fin<|aa 1 [] λ _=>RN.ret [.own 1,.own 1,.own 1,.own 1] [] [0] (v:=.tuple #[vI 0,.agg #[.slice A3 (eO j) c4,vI (bC j 0),vI (bC j 1),vI (bC j 2)]]) (H':=(ap [] [T5])) ?_
 exact⟨(A3,c4,T5),rfl,rfl,hc6⟩
theorem Jd{j bp:Nat}{TB F:HL}(hB:Book1 j bp TB)(hT:∀x∈TB,x∈F)(hj:j<5)(t:Int)(ht:0 <= t):Sp Tryz.prog 12 #[vP bp 0,vI t] (ap [] []) F (λ u H'=>∃x:Option Addr × Nat × HL,H'=ap [] [x.2.2] /\ (u=.tuple #[vI 0,.agg #[.slice x.1 (eO j) x.2.1,vI (bC j 0),vI (bC j 1),vI (bC j 2)]] /\ ClS kG 98 (jF j) x.1 x.2.1 x.2.2)):=by
 cases hB with
 | mk q A c T h=>exact Jc bp q j A c t F (hT _ (by simp[ap])) (hT _ (by simp[ap])) ht hj (h.src F λ x hx=>hT x (by simp[ap,hx]))
open Go.Shelf
def SpD(P:Program)(f:FuncId)(args:Array Value)(H F:HL)(R:Value -> HL -> Prop):Prop :=
 ∀w,Rel (H++F) w -> CallsDIn (Wr none) 0 P f args .returning w λ e u' w'=>u'=.returning /\ ∃v H',e=.returned v /\ R v H' /\ Rel (H'++F) w' /\ Below 0 w w'
theorem SpD.mono{P:Program}{f:FuncId}{args:Array Value}{H F:HL}{R R':Value -> HL -> Prop}(h:SpD P f args H F R)(hr:∀v H',R v H' -> R' v H'):SpD P f args H F R' :=
 λ w hR=>(h w hR).mono λ e u' w' ⟨h0,v,H',h1,h2,h3,h4⟩=>⟨h0,v,H',h1,hr _ _ h2,h3,h4⟩
section
variable {r:Option Nat} {P:Program} {N:Nat} {D:List Deferred} {F:HL} {w0:World} {R:HL} {s:Cfg} {Q:Exit -> Act -> World -> Prop}
def dfR(N:Nat)(s:Cfg):Option (FuncId × Array Value × Array Value):=match Bn s with
 | some o=>match o.guard,o.op,(fG N o.dst undef s.L).isSome with
  | none,.defer c,true=>match c.callee with
   | .value f=>match nX s.L f && c.args.toList.all (nX s.L) with
    | true=>match jJ s.L f with
     | .func (.func g) first cap=>some (g,first++c.args.map (jJ s.L),cap)
     | _=>none
    | false=>none
   | _=>none
  | _,_,_=>none
 | none=>none
abbrev NP(g:FuncId)(args cap:Array Value):Deferred:={ target:=.fn (.func g) cap,args:=args }
theorem Aw{L:FL}{a:Act}(hF:Fm N D L a):∀ (l:List Operand),l.all (nX L)=true -> l.map a.eval=l.map (jJ L)
 | [],_=>rfl
 | x::l,h=>by
  rw[List.all_cons,Bool.and_eq_true] at h
  rw[List.map_cons,List.map_cons,hF.eval h.1,Aw hF l h.2]
theorem Km{g:FuncId}{args cap:Array Value}(hk:RN none P N (NP g args cap::D) F w0 R (iB N undef s) Q)(h:dfR N s=some (g,args,cap):=by kernel_rfl):RN none P N D F w0 R s Q:=by
 refine⟨λ hR a w hF bY hB=>?_⟩
 obtain⟨cc,kk,L,A,Ts⟩:=s
 unfold dfR at h
 split at h
 case h_2=>cases h
 rename_i o q0
 split at h
 case h_2=>cases h
 rename_i c q1 q2 q3
 split at h
 case h_2=>cases h
 rename_i f q4
 split at h
 case h_2=>cases h
 rename_i q5
 split at h
 case h_2=>cases h
 rename_i g' first g_ q6
 simp only[Option.some.injEq,Prod.mk.injEq] at h
 obtain⟨e1,e2,e3⟩:=h
 subst e1;subst e2;subst e3
 unfold Bn at q0
 cases cc with
 | code c=>cases q0
 | ex c=>cases q0
 | drw _ _=>cases q0
 | ops ops j =>
  simp only at q0 q3 q5 q6 hF bY
  have PH:ops.toList.drop j=o::ops.toList.drop (j+1):=by
   have iN:j<ops.toList.length:=(List.getElem?_eq_some_iff.1 q0).1
   rw[List.drop_eq_getElem_cons iN,(List.getElem?_eq_some_iff.1 q0).2]
  show wpListIn _ _ _ _ _ _ _ _
  rw[PH,wpListIn,if_pos (by simp[Region.wanted,q1])]
  refine⟨λ _ _=>trivial,?_⟩
  rw[Bool.and_eq_true] at q5
  obtain⟨L',hl⟩:=fW q3 undef
  have Rt:iB N undef ⟨.ops ops j,kk,L,A,Ts⟩=⟨.ops ops (j+1),kk,L',A,Ts⟩:=by
   unfold iB
   simp only[q0,hl]
  have hh:=hk.h hR
  rw[Rt] at hh
  have RL:c.args.map a.eval=c.args.map (jJ L):=by
   apply Array.ext'
   rw[Array.toList_map,Array.toList_map]
   exact Aw hF _ q5.2
  have e1:a.eval f=.func (.func g') first g_:=(hF.eval q5.1).trans q6
  have hex:(o.semAt (Wr none).round a.eval).run P w=.ok (.defer (NP g' (first++c.args.map (jJ L)) g_)) w:=by
   show (Oper.semAt none a.eval o).run P w=_
   rw[Oper.semAt_none]
   simp only[execOp,q2,resolve,q4,e1,Deferred.ofValue,Sem.run_bind,RL]
   rfl
  rw[hex,Oper.uponIn_defer]
  have Ur:Fm N (NP g' (first++c.args.map (jJ L)) g_::D) L { a with defers:=NP g' (first++c.args.map (jJ L)) g_::a.defers }:=⟨hF.size,by rw[<- hF.defs],hF.has⟩
  exact hh _ w (Ur.put hl) bY hB
structure LV(P:Program)(N:Nat)(D:List Deferred)(F:HL)(w0:World)(R:HL)(fn:Func)(R':Value -> HL -> Prop)(s:Cfg):Prop where
 h:(∀y∈R,y∈F) -> ∀a w,Fm N D s.L a -> Rel (ap s.A s.Ts++F) w -> Below 0 w0 w -> LeavesInM (Wr none) 0 P fn a.tmps (zl F w0 R') a.defers .returning w
theorem Gb{fn:Func}{R':Value -> HL -> Prop}(hk:LV P N D F w0 R fn R' s)(hc:l8 s=true:=by kernel_rfl):RN none P N D F w0 R s (bodyPostM (Wr none) 0 P fn (zl F w0 R')):=by
 refine⟨λ hR a w hF bY hB=>?_⟩
 have key:=hk.h hR a w hF bY hB
 exact nq hc key key
def NQ(ip jp:List Nat)(Hq:HL)(Tq:List HL)(s:Cfg):Cfg:=uA (λ A=>Hq++(oth ip A.length).filterMap (A[·]?)) (λ Ts=>Tq++(oth jp Ts.length).filterMap (Ts[·]?)) s
theorem Gc{τ:Type}{fn:Func}{R':Value -> HL -> Prop}{g:FuncId}{args cap:Array Value}(eg:∀args w,(callFunc g args).run P w=.ok (.enter g args) w)(ip jp:List Nat){Hp:HL}{Tp:List HL}{Hq:τ -> HL}{Tq:τ -> List HL}{Rv:Value -> τ -> Prop}
  (hc:SpD P g (args++cap) (ap Hp Tp) (ap (eR ip s) (fL jp s)++F) (λ v H'=>∃x,H'=ap (Hq x) (Tq x) /\ Rv v x)) (hk:∀v x,Rv v x -> LV P N D F w0 R fn R' (NQ ip jp (Hq x) (Tq x) s))
  (hp:cE ip jp s=true:=by kernel_rfl) (hH:picks ip jp s=(Hp,Tp):=by kernel_rfl):LV P N (NP g args cap::D) F w0 R fn R' s:=by
 unfold cE at hp
 unfold picks at hH
 rw[Bool.and_eq_true] at hp
 simp only[Prod.mk.injEq] at hH
 obtain⟨e1,e2⟩:=hH
 refine⟨λ hR a w hF bY hB=>?_⟩
 have BY:(ap Hp Tp++ap (eR ip s) (fL jp s)).Perm (ap s.A s.Ts):=by
  have h1:=kY s.A s.Ts ip (oth ip s.A.length) jp (oth jp s.Ts.length) hp.1 hp.2
  rw[e1,e2] at h1
  exact h1
 have Ui:Rel (ap Hp Tp++(ap (eR ip s) (fL jp s)++F)) w:=by rw[<- List.append_assoc];exact bY.perm (BY.append_right F)
 rw[hF.defs]
 refine⟨by simp,.inr ⟨(λ h=>by cases h),.func g,cap,g,args++cap,rfl,?_,λ _ _=>trivial,?_⟩⟩
 ·show (callFunc g (args++cap)).run P w=_
  exact eg _ _
 ·refine(hc w Ui).mono ?_
  rintro e u' w' ⟨rfl,v,H',rfl,⟨x,rfl,hv⟩,QC,RC⟩
  have:=(hk v x hv).h hR { a with defers:=D } w' ⟨hF.size,rfl,hF.has⟩ ?_ (hB.trans RC)
  ·exact this
  ·unfold NQ
   rw[oN.1,oN.2.1]
   refine QC.perm ?_
   exact(sV _ _ _ _ _).symm
theorem Je{fn:Func}{R':Value -> HL -> Prop}(hints:List Hint)(Ob:List Prop)(iD:AllP Ob)(ip jp:List Nat){v:Value}{H':HL}(hv:R' v H')
  (h:∀n0,jg P n0 fn.results.toList R hints s=some (v,mI (jg P n0 fn.results.toList R hints s),mI (jg P n0 fn.results.toList R hints s),Ob):=by intro n0;kernel_rfl)
  (hp:cE ip jp s=true:=by kernel_rfl) (hH:ap (picks ip jp s).1 (picks ip jp s).2=H':=by kernel_rfl):LV P N [] F w0 R fn R' s:=by
 unfold cE at hp
 unfold picks at hH
 refine⟨λ hR a w hF bY hB=>?_⟩
 rw[Bool.and_eq_true] at hp
 have h':=h w.heap.size
 unfold jg xq at h'
 split at h'
 case h_2=>cases h'
 rename_i vs ss hs
 split at h'
 case h_2=>cases h'
 simp only[mI,Option.some.injEq,Prod.mk.injEq] at h'
 obtain⟨e1,-,e3,e4⟩:=h'
 have dO:=je (P:=P) hF bY fn.results.toList _ _ _ hs rfl rfl hR (λ e=>by cases e) (fM rfl e3) (by rw[e4];exact AllP.mem iD)
 subst e1
 rw[hF.defs]
 exact⟨_,iJ (by simp) dO,_,H',rfl,hv,bY.takeT ip _ jp _ hp.1 hp.2 hH,hB⟩
theorem LV.ret{fn:Func}{R':Value -> HL -> Prop}(hints:List Hint)(ip jp:List Nat){v:Value}{H':HL}(hv:R' v H')
 (h:∀n0,jg P n0 fn.results.toList R hints s=some (v,mI (jg P n0 fn.results.toList R hints s),mI (jg P n0 fn.results.toList R hints s),[]):=by intro n0;kernel_rfl)
 (hp:cE ip jp s=true:=by kernel_rfl) (hH:ap (picks ip jp s).1 (picks ip jp s).2=H':=by kernel_rfl):LV P N [] F w0 R fn R' s:=Je hints [] trivial ip jp hv h hp hH
end
end Go.Proofs.YthoijjeddhfcnaaGreatDoor
