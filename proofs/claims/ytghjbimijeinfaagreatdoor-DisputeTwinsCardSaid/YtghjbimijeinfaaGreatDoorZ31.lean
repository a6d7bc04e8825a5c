import Derived.Test.YtghjbimijeinfaaGreatDoorZ30
import Derived.Test.YtghjbimijeinfaaGreatDoorProg
import Derived.Test.YtghjbimijeinfaaGreatDoorZ21
import Derived.Test.YtghjbimijeinfaaGreatDoorZ10
set_option maxHeartbeats 4000000
set_option maxRecDepth 100000
set_option linter.unusedSimpArgs false
set_option linter.unusedVariables false
namespace Go.Proofs.YtghjbimijeinfaaGreatDoor
open Go.RowKit
noncomputable section
def iv (x:Int):Value:=.int .i64 x
def qI:List Value:=[iv 0,iv 0,iv 0,iv 1,iv 0,iv 1,iv 1,iv 0,iv 1,iv 1,iv 2,iv 0,iv 0,iv 1,iv 0,iv 1,iv 0,iv 1,iv 2,iv 1,iv 2,iv 1,iv 2,iv 1,iv 2,iv 1,iv 1,iv 1,iv 2,iv 1,iv 2,iv 1,iv 2,iv 1,iv 1,iv 1,iv 0,iv 0,iv 1,iv 0,iv 2,iv 0,iv 0,iv 0]
def gt:List PB:=[(0,qI,302)]
def KV:String:="on tick { n = n + 1; if n >= 3 { effect 1, n; n = 0; } }"
def KW:String:="on act { vx[self] = vx[self] + 100 * other; effect 2, self; } on hit { a[self] = a[self] + 1; effect 3, other; }"
def KX:String:="on hit { if hit[other] == self + 1 && a[self] < a[other] { vx[self] = -vx[self]; b[self] = tick; } else { stop; } effect 4, a[self]; }"
def KY:String:="on tick { i = 0; while i < 4 { b[i] = b[i] + still[i]; i = i + 1; } s = s + x[0] / 100; effect 5, s; } on act { s = 0; }"
def ME:List Value:=[iv 2,iv 0,iv 1,iv 1,iv 9,iv 0,iv 3,iv 0,iv 1,iv 3,iv 2,iv 0,iv 15,iv 0,iv 19,iv 14,iv 1,iv 1,iv 2,iv 0,iv 20,iv 0,iv 1,iv 0,iv 3,iv 0,iv 18,iv 14,iv 21,iv 0]
def MF:List Value:=[iv 6,iv 0,iv 6,iv 0,iv 4,iv 2,iv 1,iv 100,iv 7,iv 0,iv 11,iv 0,iv 9,iv 0,iv 5,iv 2,iv 1,iv 2,iv 6,iv 0,iv 20,iv 0,iv 21,iv 0,iv 6,iv 0,iv 6,iv 0,iv 4,iv 4,iv 1,iv 1,iv 9,iv 0,iv 5,iv 4,iv 1,iv 3,iv 7,iv 0,iv 20,iv 0,iv 21,iv 0]
def MG:List Value:=[iv 7,iv 0,iv 4,iv 6,iv 6,iv 0,iv 1,iv 1,iv 9,iv 0,iv 16,iv 0,iv 19,iv 13,iv 6,iv 0,iv 4,iv 4,iv 7,iv 0,iv 4,iv 4,iv 14,iv 0,iv 18,iv 14,iv 1,iv 0,iv 19,iv 24,iv 6,iv 0,iv 6,iv 0,iv 4,iv 2,iv 13,iv 0,iv 5,iv 2,iv 6,iv 0,iv 8,iv 0,iv 5,iv 5,iv 18,iv 25,iv 21,iv 0,iv 1,iv 4,iv 6,iv 0,iv 4,iv 4,iv 20,iv 0,iv 21,iv 0]
def MH:List Value:=[iv 1,iv 0,iv 3,iv 0,iv 21,iv 0,iv 1,iv 0,iv 3,iv 1,iv 2,iv 1,iv 1,iv 4,iv 14,iv 0,iv 19,iv 21,iv 2,iv 1,iv 2,iv 1,iv 4,iv 5,iv 2,iv 1,iv 4,iv 7,iv 9,iv 0,iv 5,iv 5,iv 2,iv 1,iv 1,iv 1,iv 9,iv 0,iv 3,iv 1,iv 18,iv 5,iv 2,iv 0,iv 1,iv 0,iv 4,iv 0,iv 1,iv 100,iv 12,iv 0,iv 9,iv 0,iv 3,iv 0,iv 1,iv 5,iv 2,iv 0,iv 20,iv 0,iv 21,iv 0]
def Ce (h len:Nat) (a b c:Int):Value:=.tuple ⟨[.agg ⟨[.slice (some ⟨h,0,none⟩) len kZ,iv a,iv b,iv c]⟩,iv 0]⟩
def N0:Value:=.tuple ⟨[.agg ⟨[.slice none 0 0,iv (-1),iv (-1),iv (-1)]⟩,iv 0]⟩
def sR (src:String) (picks:List PB) (v:Value):Bool:=KU gt picks v (oV Tryz.prog 3 100000 (.fn 78 [.string src.toUTF8] (nV gt) 3))
theorem mixed:Tryz.prog.follows .mixedOrders=true:=by kernel_rfl
theorem pv {src:String} {h:Nat} {cod:List Value} {ty:TypeId} {v:Value} {F:HL} (hh:h ≠ 0) (hq:sR src [(h,cod,ty)] v=true) :
  Sp Tryz.prog 78 #[.string src.toUTF8] (gt.map fN) F λ v' H'=>∃ ν rest,v'=kh ν v /\ H'=gt.map fN++[qG ν rest (h,cod,ty)] :=
 sQ (G:=3) (tabs:=gt) (picks:=[(h,cod,ty)]) mixed rfl rfl rfl (by simp [gt,hh.symm]) hq
theorem H9:sR "" [] N0=true:=by kernel_rfl
end
theorem Ib:sR KV [(1095,ME,129)] (Ce 1095 15 (-1) 0 (-1))=true:=by kernel_rfl
theorem Ic:sR KW [(1804,MF,129)] (Ce 1804 22 0 (-1) 12)=true:=by kernel_rfl
theorem Ie:sR KX [(2348,MG,129)] (Ce 2348 30 (-1) (-1) 0)=true:=by kernel_rfl
theorem Ig:sR KY [(2279,MH,129)] (Ce 2279 32 0 3 (-1))=true:=by kernel_rfl
noncomputable section
def kP:Nat -> ByteArray
 | 0=>"".toUTF8
 | 1=>KV.toUTF8
 | 2=>KW.toUTF8
 | 3=>KX.toUTF8
 | _=>KY.toUTF8
def Fp:Nat -> List Value
 | 0=>[]
 | 1=>ME
 | 2=>MF
 | 3=>MG
 | _=>MH
def fo:Nat -> Nat
 | 0=>0
 | 1=>15
 | 2=>22
 | 3=>30
 | _=>32
def Ii:Nat -> List Value
 | 0=>[iv (-1),iv (-1),iv (-1)]
 | 1=>[iv (-1),iv 0,iv (-1)]
 | 2=>[iv 0,iv (-1),iv 12]
 | 3=>[iv (-1),iv (-1),iv 0]
 | _=>[iv 0,iv 3,iv (-1)]
inductive PrgV (j:Nat):Value -> HL -> Prop
 | nil:j=0 -> PrgV j (.slice none 0 0) []
 | some (b cap:Nat) (rest:List Value):PrgV j (.slice (some ⟨b,0,none⟩) (fo j) cap) [(b,.lit (Fp j++rest) 129 (0,0))]
theorem lx (ν:Nu) (h len:Nat) (a b c:Int):kh ν (Ce h len a b c)=.tuple ⟨[.agg ⟨[.slice (some ⟨ls ν h,0,none⟩) len (NZ ν h kZ),iv a,iv b,iv c]⟩,iv 0]⟩:=by
 simp only [Ce,kh,Fj,qF,iv]
theorem Fq {j:Nat} (hj:j < 5) {F:HL}:Sp Tryz.prog 78 #[.string (kP j)] (gt.map fN) F λ u H'=>∃ s Hp,PrgV j s Hp /\ u=.tuple ⟨[.agg ⟨s :: Ii j⟩,iv 0]⟩ /\ H'=gt.map fN++Hp:=by
 match j,hj with
 | 0,_ =>
  refine (sQ (G:=3) (tabs:=gt) (picks:=[]) mixed rfl rfl rfl (by simp [gt]) H9).mono ?_
  rintro u H' ⟨ν,rest,rfl,rfl⟩
  exact ⟨_,[],.nil rfl,rfl,rfl⟩
 | 1,_ =>
  refine (pv (by decide) Ib).mono ?_
  rintro u H' ⟨ν,rest,rfl,rfl⟩
  exact ⟨_,_,.some _ _ _,lx ..,rfl⟩
 | 2,_ =>
  refine (pv (by decide) Ic).mono ?_
  rintro u H' ⟨ν,rest,rfl,rfl⟩
  exact ⟨_,_,.some _ _ _,lx ..,rfl⟩
 | 3,_ =>
  refine (pv (by decide) Ie).mono ?_
  rintro u H' ⟨ν,rest,rfl,rfl⟩
  exact ⟨_,_,.some _ _ _,lx ..,rfl⟩
 | 4,_ =>
  refine (pv (by decide) Ig).mono ?_
  rintro u H' ⟨ν,rest,rfl,rfl⟩
  exact ⟨_,_,.some _ _ _,lx ..,rfl⟩
theorem Ij {j:Nat} (hj:j < 5) {F:HL} (hF:(0,Blk.lit qI 302 (0,0)) ∈ F):Sp Tryz.prog 78 #[.string (kP j)] [] F λ u H'=>∃ s,PrgV j s H' /\ u=.tuple ⟨[.agg ⟨s :: Ii j⟩,iv 0]⟩ :=
 wF hF λ F0=>(Fq hj).mono λ u H' ⟨s,Hp,h1,h2,h3⟩=>⟨Hp,⟨s,h1,h2⟩,h3⟩
end
def bB (j k:Nat):Int:=match (Ii j)[k]? with | some (.int _ x)=>x | _=>0
def Js:List Value -> List Ins
 | .int _ a :: .int _ b :: r=>⟨a,b⟩ :: Js r
 | _=>[]
def jW (j:Nat):List Ins:=Js (Fp j)
theorem wG:∀ {j:Nat},j < 5 -> (jW j).length=fo j
 | 0,_=>by kernel_rfl
 | 1,_=>by kernel_rfl
 | 2,_=>by kernel_rfl
 | 3,_=>by kernel_rfl
 | 4,_=>by kernel_rfl
 | j+5,h=>absurd h (by omega)
theorem yv:∀ {j:Nat},j < 5 -> Fp j=aA kB (jW j)
 | 0,_=>by kernel_rfl
 | 1,_=>by kernel_rfl
 | 2,_=>by kernel_rfl
 | 3,_=>by kernel_rfl
 | 4,_=>by kernel_rfl
 | j+5,h=>absurd h (by omega)
theorem Ah:∀ {j:Nat},j < 5 -> fo j <= 32
 | 0,_=>by decide
 | 1,_=>by decide
 | 2,_=>by decide
 | 3,_=>by decide
 | 4,_=>by decide
 | j+5,h=>absurd h (by omega)
theorem Ik:∀ {j:Nat},j < 5 -> Ii j=[vI (bB j 0),vI (bB j 1),vI (bB j 2)]
 | 0,_=>by kernel_rfl
 | 1,_=>by kernel_rfl
 | 2,_=>by kernel_rfl
 | 3,_=>by kernel_rfl
 | 4,_=>by kernel_rfl
 | j+5,h=>absurd h (by omega)
abbrev kQ (F:HL):Prop:=(0,Blk.lit qI 302 (0,0)) ∈ F
def N1 (F:HL) (j:Nat) (A:Option Addr):Prop:=0 < fo j -> ∃ b rest,A=some ⟨b,0,none⟩ /\ (b,Blk.lit (Fp j++rest) 129 (0,0)) ∈ F
structure CodT (j:Nat) (A:Option Addr) (T:HL):Prop where
 src:∀ F,(∀ x ∈ T,x ∈ F) -> SrcIn Tryz.prog kB F A (fo j) (jW j)
 wrd:∀ F,(∀ x ∈ T,x ∈ F) -> N1 F j A
theorem KZ {j:Nat} (hj:j < 5) (F:HL) (hE:kQ F):Sp Tryz.prog 78 #[.string (kP j)] (ap [] []) F (λ u H'=>∃ x:Option Addr × Nat × HL,H'=ap [] [x.2.2] /\ (u=.tuple #[.agg #[.slice x.1 (fo j) x.2.1,vI (bB j 0),vI (bB j 1),vI (bB j 2)],vI 0] /\ CodT j x.1 x.2.2)):=by
 refine (Ij hj hE).mono ?_
 rintro u H' ⟨s,hp,rfl⟩
 rw [Ik hj]
 cases hp with
 | nil h0 =>
  subst h0
  exact ⟨(none,0,[]),(cQ _).symm,rfl,⟨λ F hF=>SrcIn.none,λ F hF h=>absurd h (by decide)⟩⟩
 | some b cap rest =>
  refine ⟨(some ⟨b,0,none⟩,cap,[(b,.lit (Fp j++rest) 129 (0,0))]),(cQ _).symm,rfl,⟨λ F hF=>?_,λ F hF h=>⟨b,rest,rfl,hF _ (List.mem_singleton.2 rfl)⟩⟩⟩
  have h:=SrcIn.lit Dj (xs:=jW j) (rest:=rest) (ty:=129) (fz:=(0,0)) (F:=F) (q:=b) (by rw [<- yv hj];exact hF _ (List.mem_singleton.2 rfl))
  rw [wG hj] at h
  exact h
inductive Book1 (j bp:Nat):HL -> Prop
 | mk (q:Nat) (A:Option Addr) (c:Nat) (T:HL) (h:CodT j A T):Book1 j bp (ap [(bp,.lit [vS q 0 1 1] 123 (0,0)),(q,.lit [vI 0,.slice A (fo j) c,vI (bB j 0),vI (bB j 1),vI (bB j 2)] 125 (0,0))] [T])
def K3:List Value:=[.string ⟨#[]⟩,.string ⟨#[111,110,32,116,105,99,107,32,123,32,110,32,61,32,110,32,43,32,49,59,32,105,102,32,110,32,62,61,32,51,32,123,32,101,102,102,101,99,116,32,49,44,32,110,59,32,110,32,61,32,48,59,32,125,32,125]⟩,.string ⟨#[111,110,32,97,99,116,32,123,32,118,120,91,115,101,108,102,93,32,61,32,118,120,91,115,101,108,102,93,32,43,32,49,48,48,32,42,32,111,116,104,101,114,59,32,101,102,102,101,99,116,32,50,44,32,115,101,108,102,59,32,125,32,111,110,32,104,105,116,32,123,32,97,91,115,101,108,102,93,32,61,32,97,91,115,101,108,102,93,32,43,32,49,59,32,101,102,102,101,99,116,32,51,44,32,111,116,104,101,114,59,32,125]⟩,.string ⟨#[111,110,32,104,105,116,32,123,32,105,102,32,104,105,116,91,111,116,104,101,114,93,32,61,61,32,115,101,108,102,32,43,32,49,32,38,38,32,97,91,115,101,108,102,93,32,60,32,97,91,111,116,104,101,114,93,32,123,32,118,120,91,115,101,108,102,93,32,61,32,45,118,120,91,115,101,108,102,93,59,32,98,91,115,101,108,102,93,32,61,32,116,105,99,107,59,32,125,32,101,108,115,101,32,123,32,115,116,111,112,59,32,125,32,101,102,102,101,99,116,32,52,44,32,97,91,115,101,108,102,93,59,32,125]⟩,.string ⟨#[111,110,32,116,105,99,107,32,123,32,105,32,61,32,48,59,32,119,104,105,108,101,32,105,32,60,32,52,32,123,32,98,91,105,93,32,61,32,98,91,105,93,32,43,32,115,116,105,108,108,91,105,93,59,32,105,32,61,32,105,32,43,32,49,59,32,125,32,115,32,61,32,115,32,43,32,120,91,48,93,32,47,32,49,48,48,59,32,101,102,102,101,99,116,32,53,44,32,115,59,32,125,32,111,110,32,97,99,116,32,123,32,115,32,61,32,48,59,32,125]⟩]
def K4:Nat -> Nat -> Value:=λ i k=>match k with | 0=>.string (kP i) | _=>default
theorem wH (F:HL):Sp Tryz.prog 79 #[] [] F (λ u H'=>∃ q:Nat,H'=ap [(q,.lit K3 9 (0,0))] [] /\ u=vS q 0 5 5):=by
 refine Sp.run Tryz.func79 rfl mn (A:=[]) (Ts:=[]) rfl λ w0=>?_
 refine ae 11 [] λ n1=>RN.ret [] [0] [] (v:=vS (n1+0) 0 5 5) (H':=(ap [((n1+0),.lit K3 9 (0,0))] [])) ?_
 exact ⟨_,rfl,rfl⟩
theorem yw (F:HL):Sp Tryz.prog 79 #[] (ap [] []) F (λ u H'=>∃ q:Nat,H'=ap [(q,.lit K3 9 (0,0))] [] /\ u=vS q 0 5 5):=wH F
theorem yx (n:Int) (F:HL) (hn:mU n):Sp Tryz.prog 36 #[vI n] [] F (λ u H'=>u=.string (kP (au n 5).toNat) /\ H'=[]):=by
 refine Sp.run Tryz.func36 rfl mn (A:=[]) (Ts:=[]) rfl λ w0=>?_
 refine ae 7 [] λ _=>RN.ct (Hp:=[]) (Tp:=[]) [] [] (yw _) ?_
 rintro _ q1 rfl
 refine ae 1 [] λ _=>aj (eJ n 5 (by decide) _) ?_
 have hA2:=dw (n:=n) hn 5 (by decide)
 refine RN.dn 0 (.rows 1 5 K4 9 (0,0))<|al 5 [.ix ((au n 5).toNat),.row 0 ((au n 5).toNat) 0] [(0+((au n 5).toNat) * 1)=((au n 5).toNat) * 1+0 /\ ((au n 5).toNat) < 5,au n 5=(((au n 5).toNat:Nat):Int) /\ (au n 5).toNat < 5] λ _=>?_
 exact RN.ret [] [] [] ⟨rfl,rfl⟩
theorem Fs (j:Nat) (F:HL) (hj:j < 5) (hE:kQ F):Sp Tryz.prog 35 #[.string (kP j)] [] F (λ u H'=>∃ x:Nat × HL,H'=ap [] [x.2] /\ (u=.tuple #[vP x.1 0,vI 0] /\ Book1 j x.1 x.2)):=by
 refine Sp.run Tryz.func35 rfl mn (A:=[]) (Ts:=[]) rfl λ w0=>?_
 refine ae 9 [] λ _=>RN.ct (Hp:=[]) (Tp:=[]) [] [] (KZ hj _ (aw hE)) ?_
 rintro _ ⟨A1,c2,T3⟩ ⟨rfl,hC4⟩
 dsimp only at hC4
 refine ae 29 (ow 0 8) λ n5=>RN.ret [] [0,1] [0] (v:=.tuple #[vP (n5+2) 0,vI 0]) (H':=(ap [((n5+2),.lit [vS (n5+1) 0 1 1] 123 (0,0)),((n5+1),.lit [vI 0,.slice A1 (fo j) c2,vI (bB j 0),vI (bB j 1),vI (bB j 2)] 125 (0,0))] [T3])) ?_
 exact ⟨((n5+2),ap [((n5+2),.lit [vS (n5+1) 0 1 1] 123 (0,0)),((n5+1),.lit [vI 0,.slice A1 (fo j) c2,vI (bB j 0),vI (bB j 1),vI (bB j 2)] 125 (0,0))] [T3]),by simp [ap],rfl,.mk _ _ _ _ hC4⟩
theorem wI (j:Nat) (F:HL) (hj:j < 5) (hE:kQ F):Sp Tryz.prog 35 #[.string (kP j)] (ap [] []) F (λ u H'=>∃ x:Nat × HL,H'=ap [] [x.2] /\ (u=.tuple #[vP x.1 0,vI 0] /\ Book1 j x.1 x.2)):=Fs j F hj hE
theorem Ft (q2 q3 bp q j:Nat) (A:Option Addr) (c:Nat) (t:Int) (F:HL) (h2:(q2,.lit [vP bp 0] 33 (0,0)) ∈ F) (h3:(q3,.lit [vI t] 3 (0,0)) ∈ F) (hb:(bp,.lit [vS q 0 1 1] 123 (0,0)) ∈ F) (hq:(q,.lit [vI 0,.slice A (fo j) c,vI (bB j 0),vI (bB j 1),vI (bB j 2)] 125 (0,0)) ∈ F) (ht:0 <= t):Sp Tryz.prog 42 #[vI 0,vP q2 0,vP q3 0] [] F (λ u H'=>u=.bool false /\ H'=[]):=by
 refine Sp.run Tryz.func42 rfl (mc h2 (mc h3 (mc hb (mc hq mn)))) (A:=[]) (Ts:=[]) rfl λ w0=>?_
 refine ae 6 [] λ _=>RN.draw [] []<|ag [] [0,4,8,1,2,3,5,6,7,9,10] [.ro 0,.ro 1,.ro 2,.ro 3]<|RD.fin<|ae 1 [] λ _=>RN.ret [] [] [] (v:=.bool (decide (0 > t))) (H':=[]) ?_
 exact ⟨congrArg Value.bool (decide_eq_false (by omega)),rfl⟩
theorem wJ (q2 q3 bp q j:Nat) (A:Option Addr) (c:Nat) (t:Int) (F:HL) (h2:(q2,.lit [vP bp 0] 33 (0,0)) ∈ F) (h3:(q3,.lit [vI t] 3 (0,0)) ∈ F) (hb:(bp,.lit [vS q 0 1 1] 123 (0,0)) ∈ F) (hq:(q,.lit [vI 0,.slice A (fo j) c,vI (bB j 0),vI (bB j 1),vI (bB j 2)] 125 (0,0)) ∈ F) (ht:0 <= t):Sp Tryz.prog 41 #[vI 1,.func (.func 42) #[] #[vP q2 0,vP q3 0]] [] F (λ u H'=>u=vI 1 /\ H'=[]):=by
 refine Sp.run Tryz.func41 rfl (mc h2 (mc h3 (mc hb (mc hq mn)))) (A:=[]) (Ts:=[]) rfl λ w0=>?_
 refine ae 14 [] λ _=>RN.rounds 3<|ae 27 [] λ _=>aj (Ft q2 q3 bp q j A c t _ (aw h2) (aw h3) (aw hb) (aw hq) ht)<|ae 31 [] λ _=>?_
 exact RN.ret [] [] [] ⟨rfl,rfl⟩
theorem Il (bp q j:Nat) (A:Option Addr) (c:Nat) (t:Int) (F:HL) (hb:(bp,.lit [vS q 0 1 1] 123 (0,0)) ∈ F) (hq:(q,.lit [vI 0,.slice A (fo j) c,vI (bB j 0),vI (bB j 1),vI (bB j 2)] 125 (0,0)) ∈ F) (ht:0 <= t) (hj:j < 5) (hC:SrcIn Tryz.prog kB F A (fo j) (jW j)):Sp Tryz.prog 15 #[vP bp 0,vI t] [] F (λ u H'=>∃ x:Option Addr × Nat × HL,H'=ap [] [x.2.2] /\ (u=.tuple #[vI 0,.agg #[.slice x.1 (fo j) x.2.1,vI (bB j 0),vI (bB j 1),vI (bB j 2)]] /\ ClS kB 129 (jW j) x.1 x.2.1 x.2.2)):=by
 refine Sp.run Tryz.func15 rfl (mc hb (mc hq mn)) (A:=[]) (Ts:=[]) rfl λ w0=>?_
 refine ae 16 [.own 2,.ro 0] λ n1=>aj (wJ (n1+0) (n1+1) bp q j A c t _ (aC 2) (aC 1) (aw hb) (aw hq) ht)<|ae 26 [.own 2,.ro 0,.ro 1,.ro 1,.ro 1,.ro 1,.own 0,.own 0,.own 0,.own 0] λ n2=>RN.draw [8] []<|ag [] [0,1,4,2,5] [.own 0,.own 0,.own 0,.own 0]<|RD.one 3 (RDO.ct [] (Hp:=[]) (Tp:=[]) [] [] (rk A (fo j) c (jW j) _ hC.up (by have:=Ah hj;omega)) ?_)
 rintro _ ⟨A3,c4,T5⟩ ⟨rfl,hc6⟩
 dsimp only at hc6
 refine ag [] [6,7] []<|RD.one 8 (RDO.ev [] [.own 1,.own 1,.own 1,.own 1] λ _=>?_)
 refine RD.fin<|ae 1 [] λ _=>RN.ret [.own 1,.own 1,.own 1,.own 1] [] [0] (v:=.tuple #[vI 0,.agg #[.slice A3 (fo j) c4,vI (bB j 0),vI (bB j 1),vI (bB j 2)]]) (H':=(ap [] [T5])) ?_
 exact ⟨(A3,c4,T5),rfl,rfl,hc6⟩
theorem Im {j bp:Nat} {TB F:HL} (hB:Book1 j bp TB) (hT:∀ x ∈ TB,x ∈ F) (hj:j < 5) (t:Int) (ht:0 <= t):Sp Tryz.prog 15 #[vP bp 0,vI t] (ap [] []) F (λ u H'=>∃ x:Option Addr × Nat × HL,H'=ap [] [x.2.2] /\ (u=.tuple #[vI 0,.agg #[.slice x.1 (fo j) x.2.1,vI (bB j 0),vI (bB j 1),vI (bB j 2)]] /\ ClS kB 129 (jW j) x.1 x.2.1 x.2.2)):=by
 cases hB with
 | mk q A c T h=>exact Il bp q j A c t F (hT _ (by simp [ap])) (hT _ (by simp [ap])) ht hj (h.src F λ x hx=>hT x (by simp [ap,hx]))
open Go.Shelf
def SpD (P:Program) (f:FuncId) (args:Array Value) (H F:HL) (R:Value -> HL -> Prop):Prop :=
 ∀ w,Rel (H++F) w -> CallsDIn (Wr none) 0 P f args .returning w λ e u' w'=>u'=.returning /\ ∃ v H',e=.returned v /\ R v H' /\ Rel (H'++F) w' /\ Below 0 w w'
theorem SpD.mono {P:Program} {f:FuncId} {args:Array Value} {H F:HL} {R R':Value -> HL -> Prop} (h:SpD P f args H F R) (hr:∀ v H',R v H' -> R' v H'):SpD P f args H F R' :=
 λ w hR=>(h w hR).mono λ e u' w' ⟨h0,v,H',h1,h2,h3,h4⟩=>⟨h0,v,H',h1,hr _ _ h2,h3,h4⟩
section
variable {r:Option Nat} {P:Program} {N:Nat} {D:List Deferred} {F:HL} {w0:World} {R:HL} {s:Cfg} {Q:Exit -> Act -> World -> Prop}
def dfR (N:Nat) (s:Cfg):Option (FuncId × Array Value × Array Value):=match rf s with
 | some o=>match o.guard,o.op,(fe N o.dst undef s.L).isSome with
  | none,.defer c,true=>match c.callee with
   | .value f=>match mw s.L f && c.args.toList.all (mw s.L) with
    | true=>match iW s.L f with
     | .func (.func g) first cap=>some (g,first++c.args.map (iW s.L),cap)
     | _=>none
    | false=>none
   | _=>none
  | _,_,_=>none
 | none=>none
abbrev MI (g:FuncId) (args cap:Array Value):Deferred:={ target:=.fn (.func g) cap,args:=args }
theorem Ai {L:FL} {a:Act} (hF:Fm N D L a):∀ (l:List Operand),l.all (mw L)=true -> l.map a.eval=l.map (iW L)
 | [],_=>rfl
 | x :: l,h=>by
  rw [List.all_cons,Bool.and_eq_true] at h
  rw [List.map_cons,List.map_cons,hF.eval h.1,Ai hF l h.2]
theorem Jt {g:FuncId} {args cap:Array Value} (hk:RN none P N (MI g args cap :: D) F w0 R (fK N undef s) Q) (h:dfR N s=some (g,args,cap):=by kernel_rfl):RN none P N D F w0 R s Q:=by
 refine ⟨λ hR a w hF hRel hB=>?_⟩
 obtain ⟨cc,kk,L,A,Ts⟩:=s
 unfold dfR at h
 split at h
 case h_2=>cases h
 rename_i o q0
 split at h
 case h_2=>cases h
 rename_i c q1 q2 q3
 split at h
 case h_2=>cases h
 rename_i f q4
 split at h
 case h_2=>cases h
 rename_i q5
 split at h
 case h_2=>cases h
 rename_i g' first cap' q6
 simp only [Option.some.injEq,Prod.mk.injEq] at h
 obtain ⟨e1,e2,e3⟩:=h
 subst e1;subst e2;subst e3
 unfold rf at q0
 cases cc with
 | code c=>cases q0
 | ex c=>cases q0
 | drw _ _=>cases q0
 | ops ops j =>
  simp only at q0 q3 q5 q6 hF hRel
  have hdrop:ops.toList.drop j=o :: ops.toList.drop (j+1):=by
   have hlt:j < ops.toList.length:=(List.getElem?_eq_some_iff.1 q0).1
   rw [List.drop_eq_getElem_cons hlt,(List.getElem?_eq_some_iff.1 q0).2]
  show wpListIn _ _ _ _ _ _ _ _
  rw [hdrop,wpListIn,if_pos (by simp [Region.wanted,q1])]
  refine ⟨λ _ _=>trivial,?_⟩
  rw [Bool.and_eq_true] at q5
  obtain ⟨L',hl⟩:=eR q3 undef
  have hpc:fK N undef ⟨.ops ops j,kk,L,A,Ts⟩=⟨.ops ops (j+1),kk,L',A,Ts⟩:=by
   unfold fK
   simp only [q0,hl]
  have hh:=hk.h hR
  rw [hpc] at hh
  have hargs:c.args.map a.eval=c.args.map (iW L):=by
   apply Array.ext'
   rw [Array.toList_map,Array.toList_map]
   exact Ai hF _ q5.2
  have e1:a.eval f=.func (.func g') first cap':=(hF.eval q5.1).trans q6
  have hex:(o.semAt (Wr none).round a.eval).run P w=.ok (.defer (MI g' (first++c.args.map (iW L)) cap')) w:=by
   show (Oper.semAt none a.eval o).run P w=_
   rw [Oper.semAt_none]
   simp only [execOp,q2,resolve,q4,e1,Deferred.ofValue,Sem.run_bind,hargs]
   rfl
  rw [hex,Oper.uponIn_defer]
  have hF':Fm N (MI g' (first++c.args.map (iW L)) cap' :: D) L { a with defers:=MI g' (first++c.args.map (iW L)) cap' :: a.defers }:=⟨hF.size,by rw [<- hF.defs],hF.has⟩
  exact hh _ w (hF'.put hl) hRel hB
structure LV (P:Program) (N:Nat) (D:List Deferred) (F:HL) (w0:World) (R:HL) (fn:Func) (R':Value -> HL -> Prop) (s:Cfg):Prop where
 h:(∀ y ∈ R,y ∈ F) -> ∀ a w,Fm N D s.L a -> Rel (ap s.A s.Ts++F) w -> Below 0 w0 w -> LeavesInM (Wr none) 0 P fn a.tmps (zd F w0 R') a.defers .returning w
theorem Fu {fn:Func} {R':Value -> HL -> Prop} (hk:LV P N D F w0 R fn R' s) (hc:lX s=true:=by kernel_rfl):RN none P N D F w0 R s (bodyPostM (Wr none) 0 P fn (zd F w0 R')):=by
 refine ⟨λ hR a w hF hRel hB=>?_⟩
 have key:=hk.h hR a w hF hRel hB
 exact nl hc key key
def MJ (ip jp:List Nat) (Hq:HL) (Tq:List HL) (s:Cfg):Cfg:=ux (λ A=>Hq++(oth ip A.length).filterMap (A[·]?)) (λ Ts=>Tq++(oth jp Ts.length).filterMap (Ts[·]?)) s
theorem Ju {τ:Type} {fn:Func} {R':Value -> HL -> Prop} {g:FuncId} {args cap:Array Value} (eg:∀ args w,(callFunc g args).run P w=.ok (.enter g args) w) (ip jp:List Nat) {Hp:HL} {Tp:List HL} {Hq:τ -> HL} {Tq:τ -> List HL} {Rv:Value -> τ -> Prop}
  (hc:SpD P g (args++cap) (ap Hp Tp) (ap (eD ip s) (fA jp s)++F) (λ v H'=>∃ x,H'=ap (Hq x) (Tq x) /\ Rv v x)) (hk:∀ v x,Rv v x -> LV P N D F w0 R fn R' (MJ ip jp (Hq x) (Tq x) s))
  (hp:bS ip jp s=true:=by kernel_rfl) (hH:picks ip jp s=(Hp,Tp):=by kernel_rfl):LV P N (MI g args cap :: D) F w0 R fn R' s:=by
 unfold bS at hp
 unfold picks at hH
 rw [Bool.and_eq_true] at hp
 simp only [Prod.mk.injEq] at hH
 obtain ⟨e1,e2⟩:=hH
 refine ⟨λ hR a w hF hRel hB=>?_⟩
 have hperm:(ap Hp Tp++ap (eD ip s) (fA jp s)).Perm (ap s.A s.Ts):=by
  have h1:=kT s.A s.Ts ip (oth ip s.A.length) jp (oth jp s.Ts.length) hp.1 hp.2
  rw [e1,e2] at h1
  exact h1
 have hR1:Rel (ap Hp Tp++(ap (eD ip s) (fA jp s)++F)) w:=by rw [<- List.append_assoc];exact hRel.perm (hperm.append_right F)
 rw [hF.defs]
 refine ⟨by simp,.inr ⟨(λ h=>by cases h),.func g,cap,g,args++cap,rfl,?_,λ _ _=>trivial,?_⟩⟩
 ·show (callFunc g (args++cap)).run P w=_
  exact eg _ _
 ·refine (hc w hR1).mono ?_
  rintro e u' w' ⟨rfl,v,H',rfl,⟨x,rfl,hv⟩,hR2,hB2⟩
  have:=(hk v x hv).h hR { a with defers:=D } w' ⟨hF.size,rfl,hF.has⟩ ?_ (hB.trans hB2)
  ·exact this
  ·unfold MJ
   rw [o7.1,o7.2.1]
   refine hR2.perm ?_
   exact (s0 _ _ _ _ _).symm
theorem Io {fn:Func} {R':Value -> HL -> Prop} (hints:List Hint) (Ob:List Prop) (hob:AllP Ob) (ip jp:List Nat) {v:Value} {H':HL} (hv:R' v H')
  (h:∀ n0,jf P n0 fn.results.toList R hints s=some (v,mH (jf P n0 fn.results.toList R hints s),mH (jf P n0 fn.results.toList R hints s),Ob):=by intro n0;kernel_rfl)
  (hp:bS ip jp s=true:=by kernel_rfl) (hH:ap (picks ip jp s).1 (picks ip jp s).2=H':=by kernel_rfl):LV P N [] F w0 R fn R' s:=by
 unfold bS at hp
 unfold picks at hH
 refine ⟨λ hR a w hF hRel hB=>?_⟩
 rw [Bool.and_eq_true] at hp
 have h':=h w.heap.size
 unfold jf xc at h'
 split at h'
 case h_2=>cases h'
 rename_i vs ss hs
 split at h'
 case h_2=>cases h'
 simp only [mH,Option.some.injEq,Prod.mk.injEq] at h'
 obtain ⟨e1,-,e3,e4⟩:=h'
 have hrun:=jd (P:=P) hF hRel fn.results.toList _ _ _ hs rfl rfl hR (λ e=>by cases e) (fB rfl e3) (by rw [e4];exact eC hob)
 subst e1
 rw [hF.defs]
 exact ⟨_,iI (by simp) hrun,_,H',rfl,hv,hRel.takeT ip _ jp _ hp.1 hp.2 hH,hB⟩
theorem LV.ret {fn:Func} {R':Value -> HL -> Prop} (hints:List Hint) (ip jp:List Nat) {v:Value} {H':HL} (hv:R' v H')
 (h:∀ n0,jf P n0 fn.results.toList R hints s=some (v,mH (jf P n0 fn.results.toList R hints s),mH (jf P n0 fn.results.toList R hints s),[]):=by intro n0;kernel_rfl)
 (hp:bS ip jp s=true:=by kernel_rfl) (hH:ap (picks ip jp s).1 (picks ip jp s).2=H':=by kernel_rfl):LV P N [] F w0 R fn R' s:=Io hints [] trivial ip jp hv h hp hH
end
end Go.Proofs.YtghjbimijeinfaaGreatDoor
