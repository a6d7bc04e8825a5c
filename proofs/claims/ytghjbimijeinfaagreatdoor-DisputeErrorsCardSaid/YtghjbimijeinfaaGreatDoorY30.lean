import Derived.Test.YtghjbimijeinfaaGreatDoorY29
import Derived.Test.YtghjbimijeinfaaGreatDoorProg
import Derived.Test.YtghjbimijeinfaaGreatDoorY20
import Derived.Test.YtghjbimijeinfaaGreatDoorY09
set_option maxHeartbeats 4000000
set_option maxRecDepth 100000
set_option linter.unusedSimpArgs false
set_option linter.unusedVariables false
namespace Go.Proofs.YtghjbimijeinfaaGreatDoor
open Go.RowKit
noncomputable section
def iv (x:Int):Value:=.int .i64 x
def qT:List Value:=[iv 0,iv 0,iv 0,iv 1,iv 0,iv 1,iv 1,iv 0,iv 1,iv 1,iv 2,iv 0,iv 0,iv 1,iv 0,iv 1,iv 0,iv 1,iv 2,iv 1,iv 2,iv 1,iv 2,iv 1,iv 2,iv 1,iv 1,iv 1,iv 2,iv 1,iv 2,iv 1,iv 2,iv 1,iv 1,iv 1,iv 0,iv 0,iv 1,iv 0,iv 2,iv 0,iv 0,iv 0]
def gA:List PB:=[(0,qT,302)]
def Lg:String:="on tick { n = n + 1; if n >= 3 { effect 1, n; n = 0; } }"
def Lh:String:="on act { vx[self] = vx[self] + 100 * other; effect 2, self; } on hit { a[self] = a[self] + 1; effect 3, other; }"
def Li:String:="on hit { if hit[other] == self + 1 && a[self] < a[other] { vx[self] = -vx[self]; b[self] = tick; } else { stop; } effect 4, a[self]; }"
def Lj:String:="on tick { i = 0; while i < 4 { b[i] = b[i] + still[i]; i = i + 1; } s = s + x[0] / 100; effect 5, s; } on act { s = 0; }"
def MS:List Value:=[iv 2,iv 0,iv 1,iv 1,iv 9,iv 0,iv 3,iv 0,iv 1,iv 3,iv 2,iv 0,iv 15,iv 0,iv 19,iv 14,iv 1,iv 1,iv 2,iv 0,iv 20,iv 0,iv 1,iv 0,iv 3,iv 0,iv 18,iv 14,iv 21,iv 0]
def MT:List Value:=[iv 6,iv 0,iv 6,iv 0,iv 4,iv 2,iv 1,iv 100,iv 7,iv 0,iv 11,iv 0,iv 9,iv 0,iv 5,iv 2,iv 1,iv 2,iv 6,iv 0,iv 20,iv 0,iv 21,iv 0,iv 6,iv 0,iv 6,iv 0,iv 4,iv 4,iv 1,iv 1,iv 9,iv 0,iv 5,iv 4,iv 1,iv 3,iv 7,iv 0,iv 20,iv 0,iv 21,iv 0]
def MU:List Value:=[iv 7,iv 0,iv 4,iv 6,iv 6,iv 0,iv 1,iv 1,iv 9,iv 0,iv 16,iv 0,iv 19,iv 13,iv 6,iv 0,iv 4,iv 4,iv 7,iv 0,iv 4,iv 4,iv 14,iv 0,iv 18,iv 14,iv 1,iv 0,iv 19,iv 24,iv 6,iv 0,iv 6,iv 0,iv 4,iv 2,iv 13,iv 0,iv 5,iv 2,iv 6,iv 0,iv 8,iv 0,iv 5,iv 5,iv 18,iv 25,iv 21,iv 0,iv 1,iv 4,iv 6,iv 0,iv 4,iv 4,iv 20,iv 0,iv 21,iv 0]
def MW:List Value:=[iv 1,iv 0,iv 3,iv 0,iv 21,iv 0,iv 1,iv 0,iv 3,iv 1,iv 2,iv 1,iv 1,iv 4,iv 14,iv 0,iv 19,iv 21,iv 2,iv 1,iv 2,iv 1,iv 4,iv 5,iv 2,iv 1,iv 4,iv 7,iv 9,iv 0,iv 5,iv 5,iv 2,iv 1,iv 1,iv 1,iv 9,iv 0,iv 3,iv 1,iv 18,iv 5,iv 2,iv 0,iv 1,iv 0,iv 4,iv 0,iv 1,iv 100,iv 12,iv 0,iv 9,iv 0,iv 3,iv 0,iv 1,iv 5,iv 2,iv 0,iv 20,iv 0,iv 21,iv 0]
def Cp (h len:Nat) (a b c:Int):Value:=.tuple ⟨[.agg ⟨[.slice (some ⟨h,0,none⟩) len ln,iv a,iv b,iv c]⟩,iv 0]⟩
def Oi:Value:=.tuple ⟨[.agg ⟨[.slice none 0 0,iv (-1),iv (-1),iv (-1)]⟩,iv 0]⟩
def tc (src:String) (picks:List PB) (v:Value):Bool:=Lf gA picks v (pg Tryz.prog 3 100000 (.fn 78 [.string src.toUTF8] (oc gA) 3))
theorem mixed:Tryz.prog.follows .mixedOrders=true:=by kernel_rfl
theorem pG {src:String} {h:Nat} {cod:List Value} {ty:TypeId} {v:Value} {F:HL} (hh:h ≠ 0) (hq:tc src [(h,cod,ty)] v=true) :
  Sp Tryz.prog 78 #[.string src.toUTF8] (gA.map fS) F λ v' H'=>∃ ν rest,v'=kr ν v /\ H'=gA.map fS++[qR ν rest (h,cod,ty)] :=
 ta (G:=3) (tabs:=gA) (picks:=[(h,cod,ty)]) mixed rfl rfl rfl (by simp [gA,hh.symm]) hq
theorem Iy:tc "" [] Oi=true:=by kernel_rfl
end
theorem Iz:tc Lg [(1095,MS,129)] (Cp 1095 15 (-1) 0 (-1))=true:=by kernel_rfl
theorem IA:tc Lh [(1804,MT,129)] (Cp 1804 22 0 (-1) 12)=true:=by kernel_rfl
theorem IB:tc Li [(2348,MU,129)] (Cp 2348 30 (-1) (-1) 0)=true:=by kernel_rfl
theorem IC:tc Lj [(2279,MW,129)] (Cp 2279 32 0 3 (-1))=true:=by kernel_rfl
noncomputable section
def kT:Nat -> ByteArray
 | 0=>"".toUTF8
 | 1=>Lg.toUTF8
 | 2=>Lh.toUTF8
 | 3=>Li.toUTF8
 | _=>Lj.toUTF8
def Fx:Nat -> List Value
 | 0=>[]
 | 1=>MS
 | 2=>MT
 | 3=>MU
 | _=>MW
def fy:Nat -> Nat
 | 0=>0
 | 1=>15
 | 2=>22
 | 3=>30
 | _=>32
def IE:Nat -> List Value
 | 0=>[iv (-1),iv (-1),iv (-1)]
 | 1=>[iv (-1),iv 0,iv (-1)]
 | 2=>[iv 0,iv (-1),iv 12]
 | 3=>[iv (-1),iv (-1),iv 0]
 | _=>[iv 0,iv 3,iv (-1)]
inductive PrgV (j:Nat):Value -> HL -> Prop
 | nil:j=0 -> PrgV j (.slice none 0 0) []
 | some (b cap:Nat) (rest:List Value):PrgV j (.slice (some ⟨b,0,none⟩) (fy j) cap) [(b,.lit (Fx j++rest) 129 (0,0))]
theorem lE (ν:Nu) (h len:Nat) (a b c:Int):kr ν (Cp h len a b c)=.tuple ⟨[.agg ⟨[.slice (some ⟨lB ν h,0,none⟩) len (Oh ν h ln),iv a,iv b,iv c]⟩,iv 0]⟩:=by
 simp only [Cp,kr,Fu,qQ,iv]
theorem Fy {j:Nat} (hj:j < 5) {F:HL}:Sp Tryz.prog 78 #[.string (kT j)] (gA.map fS) F λ u H'=>∃ s Hp,PrgV j s Hp /\ u=.tuple ⟨[.agg ⟨s :: IE j⟩,iv 0]⟩ /\ H'=gA.map fS++Hp:=by
 match j,hj with
 | 0,_ =>
  refine (ta (G:=3) (tabs:=gA) (picks:=[]) mixed rfl rfl rfl (by simp [gA]) Iy).mono ?_
  rintro u H' ⟨ν,rest,rfl,rfl⟩
  exact ⟨_,[],.nil rfl,rfl,rfl⟩
 | 1,_ =>
  refine (pG (by decide) Iz).mono ?_
  rintro u H' ⟨ν,rest,rfl,rfl⟩
  exact ⟨_,_,.some _ _ _,lE ..,rfl⟩
 | 2,_ =>
  refine (pG (by decide) IA).mono ?_
  rintro u H' ⟨ν,rest,rfl,rfl⟩
  exact ⟨_,_,.some _ _ _,lE ..,rfl⟩
 | 3,_ =>
  refine (pG (by decide) IB).mono ?_
  rintro u H' ⟨ν,rest,rfl,rfl⟩
  exact ⟨_,_,.some _ _ _,lE ..,rfl⟩
 | 4,_ =>
  refine (pG (by decide) IC).mono ?_
  rintro u H' ⟨ν,rest,rfl,rfl⟩
  exact ⟨_,_,.some _ _ _,lE ..,rfl⟩
theorem IG {j:Nat} (hj:j < 5) {F:HL} (hF:(0,Blk.lit qT 302 (0,0)) ∈ F):Sp Tryz.prog 78 #[.string (kT j)] [] F λ u H'=>∃ s,PrgV j s H' /\ u=.tuple ⟨[.agg ⟨s :: IE j⟩,iv 0]⟩ :=
 wV hF λ F0=>(Fy hj).mono λ u H' ⟨s,Hp,h1,h2,h3⟩=>⟨Hp,⟨s,h1,h2⟩,h3⟩
end
def bC (j k:Nat):Int:=match (IE j)[k]? with | some (.int _ x)=>x | _=>0
def JM:List Value -> List Ins
 | .int _ a :: .int _ b :: r=>⟨a,b⟩ :: JM r
 | _=>[]
def jZ (j:Nat):List Ins:=JM (Fx j)
theorem wW:∀ {j:Nat},j < 5 -> (jZ j).length=fy j
 | 0,_=>by kernel_rfl
 | 1,_=>by kernel_rfl
 | 2,_=>by kernel_rfl
 | 3,_=>by kernel_rfl
 | 4,_=>by kernel_rfl
 | j+5,h=>absurd h (by omega)
theorem yJ:∀ {j:Nat},j < 5 -> Fx j=ay kG (jZ j)
 | 0,_=>by kernel_rfl
 | 1,_=>by kernel_rfl
 | 2,_=>by kernel_rfl
 | 3,_=>by kernel_rfl
 | 4,_=>by kernel_rfl
 | j+5,h=>absurd h (by omega)
theorem Au:∀ {j:Nat},j < 5 -> fy j <= 32
 | 0,_=>by decide
 | 1,_=>by decide
 | 2,_=>by decide
 | 3,_=>by decide
 | 4,_=>by decide
 | j+5,h=>absurd h (by omega)
theorem IH:∀ {j:Nat},j < 5 -> IE j=[vI (bC j 0),vI (bC j 1),vI (bC j 2)]
 | 0,_=>by kernel_rfl
 | 1,_=>by kernel_rfl
 | 2,_=>by kernel_rfl
 | 3,_=>by kernel_rfl
 | 4,_=>by kernel_rfl
 | j+5,h=>absurd h (by omega)
abbrev kU (F:HL):Prop:=(0,Blk.lit qT 302 (0,0)) ∈ F
def Oj (F:HL) (j:Nat) (A:Option Addr):Prop:=0 < fy j -> ∃ b rest,A=some ⟨b,0,none⟩ /\ (b,Blk.lit (Fx j++rest) 129 (0,0)) ∈ F
structure CodT (j:Nat) (A:Option Addr) (T:HL):Prop where
 src:∀ F,(∀ x ∈ T,x ∈ F) -> SrcIn Tryz.prog kG F A (fy j) (jZ j)
 wrd:∀ F,(∀ x ∈ T,x ∈ F) -> Oj F j A
theorem Lk {j:Nat} (hj:j < 5) (F:HL) (hE:kU F):Sp Tryz.prog 78 #[.string (kT j)] (ap [] []) F (λ u H'=>∃ x:Option Addr × Nat × HL,H'=ap [] [x.2.2] /\ (u=.tuple #[.agg #[.slice x.1 (fy j) x.2.1,vI (bC j 0),vI (bC j 1),vI (bC j 2)],vI 0] /\ CodT j x.1 x.2.2)):=by
 refine (IG hj hE).mono ?_
 rintro u H' ⟨s,hp,rfl⟩
 rw [IH hj]
 cases hp with
 | nil h0 =>
  subst h0
  exact ⟨(none,0,[]),(cU _).symm,rfl,⟨λ F hF=>SrcIn.none,λ F hF h=>absurd h (by decide)⟩⟩
 | some b cap rest =>
  refine ⟨(some ⟨b,0,none⟩,cap,[(b,.lit (Fx j++rest) 129 (0,0))]),(cU _).symm,rfl,⟨λ F hF=>?_,λ F hF h=>⟨b,rest,rfl,hF _ (List.mem_singleton.2 rfl)⟩⟩⟩
  have h:=SrcIn.lit Dt (xs:=jZ j) (rest:=rest) (ty:=129) (fz:=(0,0)) (F:=F) (q:=b) (by rw [<- yJ hj];exact hF _ (List.mem_singleton.2 rfl))
  rw [wW hj] at h
  exact h
inductive Book1 (j bp:Nat):HL -> Prop
 | mk (q:Nat) (A:Option Addr) (c:Nat) (T:HL) (h:CodT j A T):Book1 j bp (ap [(bp,.lit [vS q 0 1 1] 123 (0,0)),(q,.lit [vI 0,.slice A (fy j) c,vI (bC j 0),vI (bC j 1),vI (bC j 2)] 125 (0,0))] [T])
def Ll:List Value:=[.string ⟨#[]⟩,.string ⟨#[111,110,32,116,105,99,107,32,123,32,110,32,61,32,110,32,43,32,49,59,32,105,102,32,110,32,62,61,32,51,32,123,32,101,102,102,101,99,116,32,49,44,32,110,59,32,110,32,61,32,48,59,32,125,32,125]⟩,.string ⟨#[111,110,32,97,99,116,32,123,32,118,120,91,115,101,108,102,93,32,61,32,118,120,91,115,101,108,102,93,32,43,32,49,48,48,32,42,32,111,116,104,101,114,59,32,101,102,102,101,99,116,32,50,44,32,115,101,108,102,59,32,125,32,111,110,32,104,105,116,32,123,32,97,91,115,101,108,102,93,32,61,32,97,91,115,101,108,102,93,32,43,32,49,59,32,101,102,102,101,99,116,32,51,44,32,111,116,104,101,114,59,32,125]⟩,.string ⟨#[111,110,32,104,105,116,32,123,32,105,102,32,104,105,116,91,111,116,104,101,114,93,32,61,61,32,115,101,108,102,32,43,32,49,32,38,38,32,97,91,115,101,108,102,93,32,60,32,97,91,111,116,104,101,114,93,32,123,32,118,120,91,115,101,108,102,93,32,61,32,45,118,120,91,115,101,108,102,93,59,32,98,91,115,101,108,102,93,32,61,32,116,105,99,107,59,32,125,32,101,108,115,101,32,123,32,115,116,111,112,59,32,125,32,101,102,102,101,99,116,32,52,44,32,97,91,115,101,108,102,93,59,32,125]⟩,.string ⟨#[111,110,32,116,105,99,107,32,123,32,105,32,61,32,48,59,32,119,104,105,108,101,32,105,32,60,32,52,32,123,32,98,91,105,93,32,61,32,98,91,105,93,32,43,32,115,116,105,108,108,91,105,93,59,32,105,32,61,32,105,32,43,32,49,59,32,125,32,115,32,61,32,115,32,43,32,120,91,48,93,32,47,32,49,48,48,59,32,101,102,102,101,99,116,32,53,44,32,115,59,32,125,32,111,110,32,97,99,116,32,123,32,115,32,61,32,48,59,32,125]⟩]
def Lm:Nat -> Nat -> Value:=λ i k=>match k with | 0=>.string (kT i) | _=>default
theorem wX (F:HL):Sp Tryz.prog 79 #[] [] F (λ u H'=>∃ q:Nat,H'=ap [(q,.lit Ll 9 (0,0))] [] /\ u=vS q 0 5 5):=by
 refine Sp.run Tryz.func79 rfl mn (A:=[]) (Ts:=[]) rfl λ w0=>?_
 refine ae 11 [] λ n1=>RN.ret [] [0] [] (v:=vS (n1+0) 0 5 5) (H':=(ap [((n1+0),.lit Ll 9 (0,0))] [])) ?_
 exact ⟨_,rfl,rfl⟩
theorem yK (F:HL):Sp Tryz.prog 79 #[] (ap [] []) F (λ u H'=>∃ q:Nat,H'=ap [(q,.lit Ll 9 (0,0))] [] /\ u=vS q 0 5 5):=wX F
theorem yL (n:Int) (F:HL) (hn:qa n):Sp Tryz.prog 36 #[vI n] [] F (λ u H'=>u=.string (kT (aE n 5).toNat) /\ H'=[]):=by
 refine Sp.run Tryz.func36 rfl mn (A:=[]) (Ts:=[]) rfl λ w0=>?_
 refine ae 7 [] λ _=>RN.ct (Hp:=[]) (Tp:=[]) [] [] (yK _) ?_
 rintro _ q1 rfl
 refine ae 1 [] λ _=>aj (iB n 5 (by decide) _) ?_
 have hA2:=eY (n:=n) hn 5 (by decide)
 refine RN.dn 0 (.rows 1 5 Lm 9 (0,0))<|al 5 [.ix ((aE n 5).toNat),.row 0 ((aE n 5).toNat) 0] [(0+((aE n 5).toNat) * 1)=((aE n 5).toNat) * 1+0 /\ ((aE n 5).toNat) < 5,aE n 5=(((aE n 5).toNat:Nat):Int) /\ (aE n 5).toNat < 5] λ _=>?_
 exact RN.ret [] [] [] ⟨rfl,rfl⟩
theorem Fz (j:Nat) (F:HL) (hj:j < 5) (hE:kU F):Sp Tryz.prog 35 #[.string (kT j)] [] F (λ u H'=>∃ x:Nat × HL,H'=ap [] [x.2] /\ (u=.tuple #[vP x.1 0,vI 0] /\ Book1 j x.1 x.2)):=by
 refine Sp.run Tryz.func35 rfl mn (A:=[]) (Ts:=[]) rfl λ w0=>?_
 refine ae 9 [] λ _=>RN.ct (Hp:=[]) (Tp:=[]) [] [] (Lk hj _ (au hE)) ?_
 rintro _ ⟨A1,c2,T3⟩ ⟨rfl,hC4⟩
 dsimp only at hC4
 refine ae 29 (ow 0 8) λ n5=>RN.ret [] [0,1] [0] (v:=.tuple #[vP (n5+2) 0,vI 0]) (H':=(ap [((n5+2),.lit [vS (n5+1) 0 1 1] 123 (0,0)),((n5+1),.lit [vI 0,.slice A1 (fy j) c2,vI (bC j 0),vI (bC j 1),vI (bC j 2)] 125 (0,0))] [T3])) ?_
 exact ⟨((n5+2),ap [((n5+2),.lit [vS (n5+1) 0 1 1] 123 (0,0)),((n5+1),.lit [vI 0,.slice A1 (fy j) c2,vI (bC j 0),vI (bC j 1),vI (bC j 2)] 125 (0,0))] [T3]),by simp [ap],rfl,.mk _ _ _ _ hC4⟩
theorem wY (j:Nat) (F:HL) (hj:j < 5) (hE:kU F):Sp Tryz.prog 35 #[.string (kT j)] (ap [] []) F (λ u H'=>∃ x:Nat × HL,H'=ap [] [x.2] /\ (u=.tuple #[vP x.1 0,vI 0] /\ Book1 j x.1 x.2)):=Fz j F hj hE
theorem FB (q2 q3 bp q j:Nat) (A:Option Addr) (c:Nat) (t:Int) (F:HL) (h2:(q2,.lit [vP bp 0] 33 (0,0)) ∈ F) (h3:(q3,.lit [vI t] 3 (0,0)) ∈ F) (hb:(bp,.lit [vS q 0 1 1] 123 (0,0)) ∈ F) (hq:(q,.lit [vI 0,.slice A (fy j) c,vI (bC j 0),vI (bC j 1),vI (bC j 2)] 125 (0,0)) ∈ F) (ht:0 <= t):Sp Tryz.prog 42 #[vI 0,vP q2 0,vP q3 0] [] F (λ u H'=>u=.bool false /\ H'=[]):=by
 refine Sp.run Tryz.func42 rfl (mc h2 (mc h3 (mc hb (mc hq mn)))) (A:=[]) (Ts:=[]) rfl λ w0=>?_
 refine ae 6 [] λ _=>RN.draw [] []<|ag [] [0,4,8,1,2,3,5,6,7,9,10] [.ro 0,.ro 1,.ro 2,.ro 3]<|RD.fin<|ae 1 [] λ _=>RN.ret [] [] [] (v:=.bool (decide (0 > t))) (H':=[]) ?_
 exact ⟨congrArg Value.bool (decide_eq_false (by omega)),rfl⟩
theorem wZ (q2 q3 bp q j:Nat) (A:Option Addr) (c:Nat) (t:Int) (F:HL) (h2:(q2,.lit [vP bp 0] 33 (0,0)) ∈ F) (h3:(q3,.lit [vI t] 3 (0,0)) ∈ F) (hb:(bp,.lit [vS q 0 1 1] 123 (0,0)) ∈ F) (hq:(q,.lit [vI 0,.slice A (fy j) c,vI (bC j 0),vI (bC j 1),vI (bC j 2)] 125 (0,0)) ∈ F) (ht:0 <= t):Sp Tryz.prog 41 #[vI 1,.func (.func 42) #[] #[vP q2 0,vP q3 0]] [] F (λ u H'=>u=vI 1 /\ H'=[]):=by
 refine Sp.run Tryz.func41 rfl (mc h2 (mc h3 (mc hb (mc hq mn)))) (A:=[]) (Ts:=[]) rfl λ w0=>?_
 refine ae 14 [] λ _=>RN.rounds 3<|ae 27 [] λ _=>aj (FB q2 q3 bp q j A c t _ (au h2) (au h3) (au hb) (au hq) ht)<|ae 31 [] λ _=>?_
 exact RN.ret [] [] [] ⟨rfl,rfl⟩
theorem II (bp q j:Nat) (A:Option Addr) (c:Nat) (t:Int) (F:HL) (hb:(bp,.lit [vS q 0 1 1] 123 (0,0)) ∈ F) (hq:(q,.lit [vI 0,.slice A (fy j) c,vI (bC j 0),vI (bC j 1),vI (bC j 2)] 125 (0,0)) ∈ F) (ht:0 <= t) (hj:j < 5) (hC:SrcIn Tryz.prog kG F A (fy j) (jZ j)):Sp Tryz.prog 15 #[vP bp 0,vI t] [] F (λ u H'=>∃ x:Option Addr × Nat × HL,H'=ap [] [x.2.2] /\ (u=.tuple #[vI 0,.agg #[.slice x.1 (fy j) x.2.1,vI (bC j 0),vI (bC j 1),vI (bC j 2)]] /\ ClS kG 129 (jZ j) x.1 x.2.1 x.2.2)):=by
 refine Sp.run Tryz.func15 rfl (mc hb (mc hq mn)) (A:=[]) (Ts:=[]) rfl λ w0=>?_
 refine ae 16 [.own 2,.ro 0] λ n1=>aj (wZ (n1+0) (n1+1) bp q j A c t _ (aB 2) (aB 1) (au hb) (au hq) ht)<|ae 26 [.own 2,.ro 0,.ro 1,.ro 1,.ro 1,.ro 1,.own 0,.own 0,.own 0,.own 0] λ n2=>RN.draw [8] []<|ag [] [0,1,4,2,5] [.own 0,.own 0,.own 0,.own 0]<|RD.one 3 (RDO.ct [] (Hp:=[]) (Tp:=[]) [] [] (rE A (fy j) c (jZ j) _ hC.up (by have:=Au hj;omega)) ?_)
 rintro _ ⟨A3,c4,T5⟩ ⟨rfl,hc6⟩
 dsimp only at hc6
 refine ag [] [6,7] []<|RD.one 8 (RDO.ev [] [.own 1,.own 1,.own 1,.own 1] λ _=>?_)
 refine RD.fin<|ae 1 [] λ _=>RN.ret [.own 1,.own 1,.own 1,.own 1] [] [0] (v:=.tuple #[vI 0,.agg #[.slice A3 (fy j) c4,vI (bC j 0),vI (bC j 1),vI (bC j 2)]]) (H':=(ap [] [T5])) ?_
 exact ⟨(A3,c4,T5),rfl,rfl,hc6⟩
theorem IJ {j bp:Nat} {TB F:HL} (hB:Book1 j bp TB) (hT:∀ x ∈ TB,x ∈ F) (hj:j < 5) (t:Int) (ht:0 <= t):Sp Tryz.prog 15 #[vP bp 0,vI t] (ap [] []) F (λ u H'=>∃ x:Option Addr × Nat × HL,H'=ap [] [x.2.2] /\ (u=.tuple #[vI 0,.agg #[.slice x.1 (fy j) x.2.1,vI (bC j 0),vI (bC j 1),vI (bC j 2)]] /\ ClS kG 129 (jZ j) x.1 x.2.1 x.2.2)):=by
 cases hB with
 | mk q A c T h=>exact II bp q j A c t F (hT _ (by simp [ap])) (hT _ (by simp [ap])) ht hj (h.src F λ x hx=>hT x (by simp [ap,hx]))
open Go.Shelf
def SpD (P:Program) (f:FuncId) (args:Array Value) (H F:HL) (R:Value -> HL -> Prop):Prop :=
 ∀ w,Rel (H++F) w -> CallsDIn (Wr none) 0 P f args .returning w λ e u' w'=>u'=.returning /\ ∃ v H',e=.returned v /\ R v H' /\ Rel (H'++F) w' /\ Below 0 w w'
theorem SpD.mono {P:Program} {f:FuncId} {args:Array Value} {H F:HL} {R R':Value -> HL -> Prop} (h:SpD P f args H F R) (hr:∀ v H',R v H' -> R' v H'):SpD P f args H F R' :=
 λ w hR=>(h w hR).mono λ e u' w' ⟨h0,v,H',h1,h2,h3,h4⟩=>⟨h0,v,H',h1,hr _ _ h2,h3,h4⟩
section
variable {r:Option Nat} {P:Program} {N:Nat} {D:List Deferred} {F:HL} {w0:World} {R:HL} {s:Cfg} {Q:Exit -> Act -> World -> Prop}
def dfR (N:Nat) (s:Cfg):Option (FuncId × Array Value × Array Value):=match rx s with
 | some o=>match o.guard,o.op,(fi N o.dst undef s.L).isSome with
  | none,.defer c,true=>match c.callee with
   | .value f=>match mC s.L f && c.args.toList.all (mC s.L) with
    | true=>match i5 s.L f with
     | .func (.func g) first cap=>some (g,first++c.args.map (i5 s.L),cap)
     | _=>none
    | false=>none
   | _=>none
  | _,_,_=>none
 | none=>none
abbrev MX (g:FuncId) (args cap:Array Value):Deferred:={ target:=.fn (.func g) cap,args:=args }
theorem Av {L:FL} {a:Act} (hF:Fm N D L a):∀ (l:List Operand),l.all (mC L)=true -> l.map a.eval=l.map (i5 L)
 | [],_=>rfl
 | x :: l,h=>by
  rw [List.all_cons,Bool.and_eq_true] at h
  rw [List.map_cons,List.map_cons,hF.eval h.1,Av hF l h.2]
theorem JN {g:FuncId} {args cap:Array Value} (hk:RN none P N (MX g args cap :: D) F w0 R (fP N undef s) Q) (h:dfR N s=some (g,args,cap):=by kernel_rfl):RN none P N D F w0 R s Q:=by
 refine ⟨λ hR a w hF hRel hB=>?_⟩
 obtain ⟨cc,kk,L,A,Ts⟩:=s
 unfold dfR at h
 split at h
 case h_2=>cases h
 rename_i o q0
 split at h
 case h_2=>cases h
 rename_i c q1 q2 q3
 split at h
 case h_2=>cases h
 rename_i f q4
 split at h
 case h_2=>cases h
 rename_i q5
 split at h
 case h_2=>cases h
 rename_i g' first cap' q6
 simp only [Option.some.injEq,Prod.mk.injEq] at h
 obtain ⟨e1,e2,e3⟩:=h
 subst e1;subst e2;subst e3
 unfold rx at q0
 cases cc with
 | code c=>cases q0
 | ex c=>cases q0
 | drw _ _=>cases q0
 | ops ops j =>
  simp only at q0 q3 q5 q6 hF hRel
  have hdrop:ops.toList.drop j=o :: ops.toList.drop (j+1):=by
   have hlt:j < ops.toList.length:=(List.getElem?_eq_some_iff.1 q0).1
   rw [List.drop_eq_getElem_cons hlt,(List.getElem?_eq_some_iff.1 q0).2]
  show wpListIn _ _ _ _ _ _ _ _
  rw [hdrop,wpListIn,if_pos (by simp [Region.wanted,q1])]
  refine ⟨λ _ _=>trivial,?_⟩
  rw [Bool.and_eq_true] at q5
  obtain ⟨L',hl⟩:=eT q3 undef
  have hpc:fP N undef ⟨.ops ops j,kk,L,A,Ts⟩=⟨.ops ops (j+1),kk,L',A,Ts⟩:=by
   unfold fP
   simp only [q0,hl]
  have hh:=hk.h hR
  rw [hpc] at hh
  have hargs:c.args.map a.eval=c.args.map (i5 L):=by
   apply Array.ext'
   rw [Array.toList_map,Array.toList_map]
   exact Av hF _ q5.2
  have e1:a.eval f=.func (.func g') first cap':=(hF.eval q5.1).trans q6
  have hex:(o.semAt (Wr none).round a.eval).run P w=.ok (.defer (MX g' (first++c.args.map (i5 L)) cap')) w:=by
   show (Oper.semAt none a.eval o).run P w=_
   rw [Oper.semAt_none]
   simp only [execOp,q2,resolve,q4,e1,Deferred.ofValue,Sem.run_bind,hargs]
   rfl
  rw [hex,Oper.uponIn_defer]
  have hF':Fm N (MX g' (first++c.args.map (i5 L)) cap' :: D) L { a with defers:=MX g' (first++c.args.map (i5 L)) cap' :: a.defers }:=⟨hF.size,by rw [<- hF.defs],hF.has⟩
  exact hh _ w (hF'.put hl) hRel hB
structure LV (P:Program) (N:Nat) (D:List Deferred) (F:HL) (w0:World) (R:HL) (fn:Func) (R':Value -> HL -> Prop) (s:Cfg):Prop where
 h:(∀ y ∈ R,y ∈ F) -> ∀ a w,Fm N D s.L a -> Rel (ap s.A s.Ts++F) w -> Below 0 w0 w -> LeavesInM (Wr none) 0 P fn a.tmps (zp F w0 R') a.defers .returning w
theorem FC {fn:Func} {R':Value -> HL -> Prop} (hk:LV P N D F w0 R fn R' s) (hc:ma s=true:=by kernel_rfl):RN none P N D F w0 R s (bodyPostM (Wr none) 0 P fn (zp F w0 R')):=by
 refine ⟨λ hR a w hF hRel hB=>?_⟩
 have key:=hk.h hR a w hF hRel hB
 exact nA hc key key
def MY (ip jp:List Nat) (Hq:HL) (Tq:List HL) (s:Cfg):Cfg:=uL (λ A=>Hq++(oth ip A.length).filterMap (A[·]?)) (λ Ts=>Tq++(oth jp Ts.length).filterMap (Ts[·]?)) s
theorem JO {τ:Type} {fn:Func} {R':Value -> HL -> Prop} {g:FuncId} {args cap:Array Value} (eg:∀ args w,(callFunc g args).run P w=.ok (.enter g args) w) (ip jp:List Nat) {Hp:HL} {Tp:List HL} {Hq:τ -> HL} {Tq:τ -> List HL} {Rv:Value -> τ -> Prop}
  (hc:SpD P g (args++cap) (ap Hp Tp) (ap (eF ip s) (fE jp s)++F) (λ v H'=>∃ x,H'=ap (Hq x) (Tq x) /\ Rv v x)) (hk:∀ v x,Rv v x -> LV P N D F w0 R fn R' (MY ip jp (Hq x) (Tq x) s))
  (hp:bT ip jp s=true:=by kernel_rfl) (hH:picks ip jp s=(Hp,Tp):=by kernel_rfl):LV P N (MX g args cap :: D) F w0 R fn R' s:=by
 unfold bT at hp
 unfold picks at hH
 rw [Bool.and_eq_true] at hp
 simp only [Prod.mk.injEq] at hH
 obtain ⟨e1,e2⟩:=hH
 refine ⟨λ hR a w hF hRel hB=>?_⟩
 have hperm:(ap Hp Tp++ap (eF ip s) (fE jp s)).Perm (ap s.A s.Ts):=by
  have h1:=kY s.A s.Ts ip (oth ip s.A.length) jp (oth jp s.Ts.length) hp.1 hp.2
  rw [e1,e2] at h1
  exact h1
 have hR1:Rel (ap Hp Tp++(ap (eF ip s) (fE jp s)++F)) w:=by rw [<- List.append_assoc];exact hRel.perm (hperm.append_right F)
 rw [hF.defs]
 refine ⟨by simp,.inr ⟨(λ h=>by cases h),.func g,cap,g,args++cap,rfl,?_,λ _ _=>trivial,?_⟩⟩
 ·show (callFunc g (args++cap)).run P w=_
  exact eg _ _
 ·refine (hc w hR1).mono ?_
  rintro e u' w' ⟨rfl,v,H',rfl,⟨x,rfl,hv⟩,hR2,hB2⟩
  have:=(hk v x hv).h hR { a with defers:=D } w' ⟨hF.size,rfl,hF.has⟩ ?_ (hB.trans hB2)
  ·exact this
  ·unfold MY
   rw [pm.1,pm.2.1]
   refine hR2.perm ?_
   exact (tz _ _ _ _ _).symm
theorem IK {fn:Func} {R':Value -> HL -> Prop} (hints:List Hint) (Ob:List Prop) (hob:AllP Ob) (ip jp:List Nat) {v:Value} {H':HL} (hv:R' v H')
  (h:∀ n0,jl P n0 fn.results.toList R hints s=some (v,mM (jl P n0 fn.results.toList R hints s),mM (jl P n0 fn.results.toList R hints s),Ob):=by intro n0;kernel_rfl)
  (hp:bT ip jp s=true:=by kernel_rfl) (hH:ap (picks ip jp s).1 (picks ip jp s).2=H':=by kernel_rfl):LV P N [] F w0 R fn R' s:=by
 unfold bT at hp
 unfold picks at hH
 refine ⟨λ hR a w hF hRel hB=>?_⟩
 rw [Bool.and_eq_true] at hp
 have h':=h w.heap.size
 unfold jl xr at h'
 split at h'
 case h_2=>cases h'
 rename_i vs ss hs
 split at h'
 case h_2=>cases h'
 simp only [mM,Option.some.injEq,Prod.mk.injEq] at h'
 obtain ⟨e1,-,e3,e4⟩:=h'
 have hrun:=ji (P:=P) hF hRel fn.results.toList _ _ _ hs rfl rfl hR (λ e=>by cases e) (fG rfl e3) (by rw [e4];exact eE hob)
 subst e1
 rw [hF.defs]
 exact ⟨_,iO (by simp) hrun,_,H',rfl,hv,hRel.takeT ip _ jp _ hp.1 hp.2 hH,hB⟩
theorem LV.ret {fn:Func} {R':Value -> HL -> Prop} (hints:List Hint) (ip jp:List Nat) {v:Value} {H':HL} (hv:R' v H')
 (h:∀ n0,jl P n0 fn.results.toList R hints s=some (v,mM (jl P n0 fn.results.toList R hints s),mM (jl P n0 fn.results.toList R hints s),[]):=by intro n0;kernel_rfl)
 (hp:bT ip jp s=true:=by kernel_rfl) (hH:ap (picks ip jp s).1 (picks ip jp s).2=H':=by kernel_rfl):LV P N [] F w0 R fn R' s:=IK hints [] trivial ip jp hv h hp hH
end
end Go.Proofs.YtghjbimijeinfaaGreatDoor
