import Derived.Test.YtogafelgppjklaaGreatDoorQ00
import Derived.RangeFuncLeaves
import Derived.RecoverIn
import Derived.Deep.AppendSrc
import Derived.Laws.AppendOwn
set_option maxHeartbeats 4000000
set_option maxRecDepth 100000
set_option linter.all false
namespace Go.Proofs.YtogafelgppjklaaGreatDoor
open Go.RowKit
open IntKind
noncomputable section
inductive Tr(α:Type) where
 |lf
 |nd (v:α) (l r:Tr α)
noncomputable def Tr.getP{α:Type}(d:α)(p:List Bool):Tr α->α :=
 List.rec (motive:=λ _=>Tr α->α) (λ t=>Tr.rec (motive:=λ _=>α) d (λ v _ _ _ _=>v) t) (λ b _ ih t=>Tr.rec (motive:=λ _=>α) d (λ _ l r _ _=>Bool.rec (motive:=λ _=>α) (ih l) (ih r) b) t) p
noncomputable def Tr.setP{α:Type}(d x:α)(p:List Bool):Tr α->Tr α :=
 List.rec (motive:=λ _=>Tr α->Tr α) (λ t=>Tr.rec (motive:=λ _=>Tr α) (.nd x .lf .lf) (λ _ l r _ _=>.nd x l r) t)
  (λ b _ ih t=>Tr.rec (motive:=λ _=>Tr α) (Bool.rec (motive:=λ _=>Tr α) (.nd d (ih .lf) .lf) (.nd d .lf (ih .lf)) b) (λ v l r _ _=>Bool.rec (motive:=λ _=>Tr α) (.nd v (ih l) r) (.nd v l (ih r)) b) t) p
noncomputable def Jt(k:Nat):Nat->List Bool :=
 Nat.rec (motive:=λ _=>Nat->List Bool) (λ _=>[]) (λ _ ih i=>Nat.rec (motive:=λ _=>List Bool) [] (λ i _=>Nat.beq (i%2) 1::ih (i/2)) i) k
noncomputable def pth(i:Nat):List Bool:=Jt i i
noncomputable def Tr.get{α:Type}(d:α)(t:Tr α)(i:Nat):α:=Tr.getP d (pth i) t
noncomputable def Tr.set{α:Type}(d x:α)(t:Tr α)(i:Nat):Tr α:=Tr.setP d x (pth i) t
def dM{α:Type}(d:α):List α->Nat->Tr α->Tr α
 | [],_,t=>t
 |x::l,i,t=>match Tr.set d x t i with
  | .lf=>dM d l (i+1) .lf
  | .nd a b c=>dM d l (i+1) (.nd a b c)
def PK{α:Type}(d:α)(t:Tr α)(i:Nat):Nat->List α
 |0=>[]
 |n+1=>t.get d i::PK d t (i+1) n
mutual
def pl:Value->Bool
 | .pointer (some _)=>false
 | .slice (some _) _ _=>false
 | .map (some _)=>false
 | .chan _=>false
 | .func fn first captured=>match fn with
  | .func _=>match Oy first with
   |true=>Oy captured
   |false=>false
  |_=>false
 | .iface _ v=>pl v
 | .agg cs=>Oy cs
 | .tuple cs=>Oy cs
 |_=>true
def Oy:Array Value->Bool
 | ⟨l⟩=>yT l
def yT:List Value->Bool
 | []=>true
 |v::l=>match pl v with
  |true=>yT l
  |false=>false
end
inductive AB where
 |cells (n:Nat) (t:Tr Value) (ty:TypeId) (w:Nat) (ro:Bool)
 |map (es:List (Value×Value×Nat)) (clock:Nat)
 |loop (st:LoopState) (pend:Option Code) (T:Tr Value) (N:Nat) (ps:Array Tmp) (assign body:Code) (defers:Nat)
 |dfr (shut:Bool)
abbrev AH:=Tr (Option AB)
structure St where
 T:Tr Value
 D:List Deferred
 H:AH
 n:Nat
abbrev bP(H:AH)(h:Nat):Option AB:=Tr.get none H h
abbrev cM(H:AH)(h:Nat)(b:Option AB):AH:=Tr.set none b H h
abbrev cN(T:Tr Value)(t:Nat):Value:=Tr.get undef T t
abbrev tV(T:Tr Value)(t:Nat)(v:Value):Tr Value:=Tr.set undef v T t
def lw:Nat:=9223372036854775808
def ael(T:Tr Value):Operand->Value
 | .tmp t=>cN T t
 | .const v=>v
 | .global g=>.pointer (some ⟨g,0,none⟩)
 | .func f=>.func (.func f) #[] #[]
def S5(G:Nat):Operand->Bool
 | .tmp _=>true
 | .const v=>pl v
 | .global g=>Nat.blt g G
 | .func _=>true
def jk:Op->Option (List Operand)
 | .defer c=>match c.callee with
  | .value f=>some (f::c.args.toList)
  |_=>none
 |o=>bW o
def tW(G:Nat):List Operand->Bool
 | []=>true
 |x::l=>match S5 G x with
  |true=>tW G l
  |false=>false
def wF(T:Tr Value):List Operand->Bool
 | []=>true
 |x::l=>match pl (ael T x) with
  |true=>wF T l
  |false=>false
def yU(P:Program){α:Type}:Sem α->Option α
 | .pure a=>some a
 | .program k=>yU P (k P)
 | .mark _ k=>yU P k
 |_=>none
def Ju(op:BinOp)(a b:Int):Option Bool:=match op with
 | .lss=>some (decide (a<b))
 | .leq=>some (decide (a<=b))
 | .gtr=>some (decide (a>b))
 | .geq=>some (decide (a>=b))
 | .eql=>some (a == b)
 | .neq=>some (a !=b)
 |_=>none
def Jv:Value->Value->Option Bool
 | .pointer none,.pointer b=>some b.isNone
 | .pointer (some _),.pointer none=>some false
 | .slice none _ _,.slice b _ _=>some b.isNone
 | .slice (some _) _ _,.slice none _ _=>some false
 | .map none,.map b=>some b.isNone
 | .map (some _),.map none=>some false
 | .nilFunc,.nilFunc=>some true
 | .nilFunc,.func _ _ _=>some false
 | .func _ _ _,.nilFunc=>some false
 | .nilIface,.iface _ _=>some false
 | .iface _ _,.nilIface=>some false
 |_,_=>none
def MN(P:Program)(t:TypeId)(u:Value):Bool:=match P.underlying t with
 |some (.pointer _)=>match u with | .pointer _=>true|_=>false
 |some (.slice _)=>match u with | .slice _ _ _=>true|_=>false
 |some (.map _ _)=>match u with | .map _=>true|_=>false
 |some (.func _ _ _)=>match u with | .nilFunc=>true | .func _ _ _=>true|_=>false
 |some (.interface _)=>match u with | .nilIface=>true | .iface _ _=>true|_=>false
 |_=>false
def yV(P:Program)(t:TypeId):Bool:=match P.underlying t with
 |some (.struct _)=>false
 |some (.array _ _)=>false
 |some _=>true
 |none=>false
def BU(P:Program)(t:TypeId):Option Nat:=match P.underlying t with
 |some (.struct _)=>(P.info? t).map (·.size)
 |some (.array _ _)=>(P.info? t).map (·.size)
 |_=>none
def fh(P:Program)(t:TypeId):Option Nat:=(P.info? t).map (·.size)
def yW(P:Program)(t:TypeId)(j:Nat):Option (Nat×TypeId):=match P.underlying t with
 |some (.struct fs)=>match fs[j]? with
  |some f=>match P.info? f.type with
   |some inf=>match inf.size with
    |0=>none
    |_+1=>some (f.offset,f.type)
   |none=>none
  |none=>none
 |_=>none
def o7:List Value->Nat->Option Value
 | [],_=>none
 |v::l,i=>match i with
  |0=>some v
  |i+1=>o7 l i
def uS:List Value->Nat->List Value
 | [],_=>[]
 |v::l,i=>match i with
  |0=>v::l
  |i+1=>uS l i
def uT:List Value->Nat->List Value
 | [],_=>[]
 |v::l,i=>match i with
  |0=>[]
  |i+1=>v::uT l i
def lx:List Value->List Value->Option (List Value)
 | [],l=>some l
 |_::_,[]=>none
 |v::vs,_::l=>match lx vs l with
  |some l=>some (v::l)
  |none=>none
def fi(vs:List Value):List Value->Nat->Option (List Value)
 | [],i=>match i with
  |0=>lx vs []
  |_+1=>none
 |x::l,i=>match i with
  |0=>lx vs (x::l)
  |i+1=>match fi vs l i with
   |some l=>some (x::l)
   |none=>none
def iq:Value->List Value
 | .agg cs=>cs.toList
 |v=>[v]
def gE:List Value->Nat
 | []=>0
 |_::l=>Nat.succ (gE l)
def o8(P:Program)(t:TypeId)(cs:List Value)(off:Nat):Option Value:=match yV P t with
 |true=>o7 cs off
 |false=>match BU P t with
  |some k=>some (.agg ⟨uT (uS cs off) k⟩)
  |none=>none
def ly(place:Nat->Option (Nat×Nat)):List (Nat×Value)->List Value->Option (List Value)
 | [],l=>some l
 | (i,v)::ps,l=>match place i with
  |some (off,k+1)=>match Nat.beq (gE (iq v)) (k+1) with
   |false=>none
   |true=>match fi (iq v) l off with
    |some l=>ly place ps l
    |none=>none
  |_=>none
def wG(T:Tr Value):List (Nat×Operand)->List (Nat×Value)
 | []=>[]
 | (i,x)::l=>(i,ael T x)::wG T l
def lz(P:Program)(t:TypeId):Option (List Value):=match P.info? t with
 |some i=>match i.zero with
  |some z=>match pl z with
   |true=>some (iq z)
   |false=>none
  |none=>none
 |none=>none
def kh(P:Program):List Field->Option (List (Nat×Nat))
 | []=>some []
 |f::fs=>match fh P f.type,kh P fs with
  |some k,some l=>some ((f.offset,k)::l)
  |_,_=>none
def Jw:List (Nat×Nat)->Nat->Option (Nat×Nat)
 | [],_=>none
 |v::l,i=>match i with
  |0=>some v
  |i+1=>Jw l i
def BV(P:Program)(t:TypeId)(parts:List (Nat×Value)):Option Value:=match lz P t with
 |some z=>match P.underlying t with
  |some (.struct fs)=>match kh P fs.toList with
   |some pls=>match ly (Jw pls) parts z with
    |some l=>some (.agg ⟨l⟩)
    |none=>none
   |none=>none
  |some (.array _ el)=>match fh P el with
   |some k=>match ly (λ i=>some (i*k,k)) parts z with
    |some l=>some (.agg ⟨l⟩)
    |none=>none
   |none=>none
  |_=>none
 |none=>none
def m8(z:List Value):Nat->List Value
 |0=>[]
 |n+1=>z++m8 z n
def nV(T:Tr Value):List Operand->List Value
 | []=>[]
 |x::l=>ael T x::nV T l
def LU:Value->Option Nat
 | .int _ (.ofNat n)=>some n
 |_=>none
def wH(T:Tr Value)(d:Nat):Option Operand->Option Nat
 |none=>some d
 |some x=>LU (ael T x)
def BW(a:Addr)(k:Nat):Addr:=match k with
 |0=>a
 |k+1=>⟨a.block,a.off+(k+1),none⟩
def BX(P:Program)(t:TypeId)(v:Value):Option Nat:=match P.underlying t,v with
 |some (.slice _),.slice _ n _=>some n
 |some .string,.string s=>some s.size
 |_,_=>none
def PL(P:Program):Call->Option (Operand×TypeId)
 | ⟨.builtin .len,⟨[x]⟩,⟨[t]⟩⟩=>match P.underlying t with
  |some (.slice _)=>some (x,t)
  |some .string=>some (x,t)
  |_=>none
 |_=>none
def TU:Call->Bool
 | ⟨.builtin .min,_,_⟩=>true
 | ⟨.builtin .max,_,_⟩=>true
 |_=>false
inductive Cl where
 |pu|lo|nw|ef
def TW(P:Program)(c:Call):Cl:=match PL P c with
 |some _=>.pu
 |none=>match TU c with
  |true=>.pu
  |false=>.ef
def tH(P:Program):Op->Cl
 | .alloc _ | .box _ _ | .buildSlice _ _ _ | .makeSlice _ _ _ | .makeMap _ _=>.nw
 | .load _ _ | .lookup _ _ _ _ | .slice _ _ _ _ _=>.lo
 | .store _ _ _ | .mapUpdate _ _ _ _ | .insert _ _ _ _ | .defer _=>.ef
 | .call c=>TW P c
 |_=>.pu
def gF(P:Program)(T:Tr Value)(o:Oper):Option Value:=match bW o.op with
 |some l=>match wF T l with
  |true=>match yU P (execOp (ael T) o) with
   |some (.value v)=>match pl v with
    |true=>some v
    |false=>none
   |_=>none
  |false=>none
 |none=>none
def gY(P:Program)(o:Oper)(T:Tr Value):Option Value:=match o.op with
 | .move x=>some (ael T x)
 | .assign x=>some (ael T x)
 | .pick c a b=>match ael T c with
  | .bool true=>some (ael T a)
  | .bool false=>some (ael T b)
  |_=>none
 | .build t parts=>BV P t (wG T parts.toList)
 | .nilCheck x=>match ael T x with
  | .pointer (some a)=>some (.pointer (some a))
  | .func (.func f) first captured=>some (.func (.func f) first captured)
  | .iface t v=>some (.iface t v)
  |_=>none
 | .binOp op t x y _=>match ael T x,ael T y with
  | .int k a,.int k' b=>match Ju op a b with
   |some r=>match decide (k=k') with
    |true=>some (.bool r)
    |false=>none
   |none=>gF P T o
  |u,v=>match Jv u v with
   |some r=>match MN P t u,op with
    |true,.eql=>some (.bool r)
    |true,.neq=>some (.bool (!r))
    |_,_=>none
   |none=>gF P T o
 | .makeInterface t x=>match P.underlying t with
  |some (.interface _)=>none
  |some _=>some (.iface t (ael T x))
  |none=>none
 | .makeFunc fn first captured=>match fn with
  | .func f=>some (.func (.func f) ⟨nV T first.toList⟩ ⟨nV T captured.toList⟩)
  |_=>none
 | .fieldAddr t x j=>match ael T x,yW P t j with
  | .pointer (some a),some (k,_)=>some (.pointer (some (BW a k)))
  |_,_=>none
 | .field t x j=>match ael T x,yW P t j with
  | .agg cs,some (k,ft)=>o8 P ft cs.toList k
  |_,_=>none
 | .indexAddr t x i=>match P.underlying t,ael T x,LU (ael T i) with
  |some (.slice el),.slice (some a) n _,some i=>match Nat.blt i n,fh P el with
   |true,some k=>some (.pointer (some (BW a (i*k))))
   |_,_=>none
  |some (.array n el),.pointer (some a),some i=>match Nat.blt i n,fh P el with
   |true,some k=>some (.pointer (some (BW a (i*k))))
   |_,_=>none
  |_,_,_=>none
 | .index t x i=>match P.underlying t,ael T x,LU (ael T i) with
  |some (.array n el),.agg cs,some i=>match Nat.blt i n,fh P el with
   |true,some k=>o8 P el cs.toList (i*k)
   |_,_=>none
  |_,_,_=>gF P T o
 | .extract x i=>match ael T x with
  | .tuple cs=>o7 cs.toList i
  |_=>none
 | .call c=>match PL P c with
  |some (x,t)=>match BX P t (ael T x) with
   |some n=>some (.int .i64 (.ofNat n))
   |none=>none
  |none=>gF P T o
 |_=>gF P T o
def gZ(t:Tr Value)(i:Nat):Nat->List Value
 |0=>[]
 |k+1=>cN t i::gZ t (i+1) k
def uU(P:Program)(t:TypeId)(H:AH)(a:Addr):Option Value:=match a.spot,bP H a.block with
 |none,some (.cells n tr _ _ _)=>match yV P t with
  |true=>match Nat.blt a.off n with
   |true=>some (cN tr a.off)
   |false=>none
  |false=>match BU P t with
   |some k=>match Nat.ble (a.off+k) n with
    |true=>some (.agg ⟨gZ tr a.off k⟩)
    |false=>none
   |none=>none
 |_,_=>none
def ma:Value->Value->Option Bool
 | .int k a,.int k' b=>match decide (k=k') with
  |true=>some (a == b)
  |false=>none
 | .string a,.string b=>some (a == b)
 | .bool a,.bool b=>some (a == b)
 |_,_=>none
def Jy(P:Program)(t:TypeId)(k:Value):Bool:=match P.underlying t,k with
 |some (.int _),.int _ _=>true
 |some .string,.string _=>true
 |some .bool,.bool _=>true
 |_,_=>false
def yX(k:Value):List (Value×Value×Nat)->Option (Option Value)
 | []=>some none
 | (k',v,_)::l=>match ma k k' with
  |some true=>some (some v)
  |some false=>yX k l
  |none=>none
def Df(P:Program)(t:TypeId):Option Value:=match P.info? t with
 |some i=>match i.zero with
  |some z=>match pl z with
   |true=>some z
   |false=>none
  |none=>none
 |none=>none
def Dg(ok:Bool)(v:Value)(b:Bool):Value:=match ok with
 |true=>.tuple ⟨[v,.bool b]⟩
 |false=>v
def Jz(P:Program)(t:TypeId)(H:AH)(m k:Value)(ok:Bool):Option Value:=match P.underlying t with
 |some (.map kt et)=>match Jy P kt k with
  |true=>match m with
   | .map none=>match Df P et with
    |some z=>some (Dg ok z false)
    |none=>none
   | .map (some r)=>match bP H r with
    |some (.map es _)=>match yX k es with
     |some (some v)=>some (Dg ok v true)
     |some none=>match Df P et with
      |some z=>some (Dg ok z false)
      |none=>none
     |none=>none
    |_=>none
   |_=>none
  |false=>none
 |_=>none
def Dh(a:Addr)(m l k:Nat):Addr:=match Nat.beq m l with
 |true=>a
 |false=>BW a (l*k)
def wI(k:Nat)(base:Option Addr)(l h m c:Nat):Option Value:=match Nat.ble l h,Nat.ble h m,Nat.ble m c with
 |true,true,true=>match base with
  |none=>some (.slice none (h-l) (m-l))
  |some a=>match a.spot with
   |none=>some (.slice (some (Dh a m l k)) (h-l) (m-l))
   |some _=>none
 |_,_,_=>none
def JA(H:AH)(k:Nat)(a:Addr)(l h c:Nat)(m:Option Nat):Option Value:=match a.spot,bP H a.block with
 |none,some (.cells nn _ _ w _)=>match Nat.beq w k,Nat.blt 0 w,Nat.ble l h,Nat.ble ((c-lw+h)*w) nn with
  |true,true,true,true=>match m with
   |none=>match Nat.blt l h with
    |true=>some (.slice (some (BW a (l*k))) (h-l) (c+l))
    |false=>match l with
     |0=>some (.slice (some a) 0 c)
     |_+1=>none
   |some m=>match Nat.ble h m,Nat.ble ((c-lw+m)*w) nn,Nat.blt m lw with
    |true,true,true=>some (.slice (some (Dh a m l k)) (h-l) (m-l))
    |_,_,_=>none
  |_,_,_,_=>none
 |_,_=>none
def RP(hi mx:Option Operand):Bool:=match mx,hi with
 |some _,none=>false
 |_,_=>true
def PM(T:Tr Value):Option Operand->Option (Option Nat)
 |none=>some none
 |some x=>match LU (ael T x) with
  |some n=>some (some n)
  |none=>none
def BZ(P:Program)(t:TypeId)(H:AH)(T:Tr Value)(x:Value)(lo hi mx:Option Operand):Option Value:=match RP hi mx with
 |false=>none
 |true=>match P.underlying t with
  |some (.slice el)=>match x with
   | .slice base n c=>match fh P el,wH T 0 lo,wH T n hi with
    |some k,some l,some h=>match Nat.blt c lw with
     |true=>match wH T c mx with
      |some m=>wI k base l h m c
      |none=>none
     |false=>match base,PM T mx with
      |some a,some m=>JA H k a l h c m
      |_,_=>none
    |_,_,_=>none
   |_=>none
  |some (.array n el)=>match x with
   | .pointer (some a)=>match fh P el,wH T 0 lo,wH T n hi,wH T n mx with
    |some k,some l,some h,some m=>match Nat.blt n lw with
     |true=>wI k (some a) l h m n
     |false=>none
    |_,_,_,_=>none
   |_=>none
  |_=>none
def jJ(P:Program)(o:Oper)(T:Tr Value)(H:AH):Option Value:=match o.op with
 | .load t x=>match ael T x with
  | .pointer (some a)=>uU P t H a
  |_=>none
 | .lookup t m k ok=>Jz P t H (ael T m) (ael T k) ok
 | .slice t x lo hi mx=>match P.underlying t with
  |some .string=>gF P T o
  |_=>BZ P t H T (ael T x) lo hi mx
 |_=>none
inductive Mk where
 |ptr|sl (n c:Nat)|mp
def Mk.val:Mk->Nat->Value
 | .ptr,h=>.pointer (some ⟨h,0,none⟩)
 | .sl n c,h=>.slice (some ⟨h,0,none⟩) n c
 | .mp,h=>.map (some h)
def jR(l:List Value)(ty:TypeId):AB:=match dM undef l 0 .lf with
 | .lf=>.cells (gE l) .lf ty 0 false
 | .nd a b c=>.cells (gE l) (.nd a b c) ty 0 false
def uV(P:Program)(t:TypeId):Option TypeId:=match P.underlying t with
 |some (.slice el)=>some el
 |_=>none
def tX(P:Program)(o:Oper)(T:Tr Value):Option (AB×Mk):=match o.op with
 | .alloc t=>match lz P t with
  |some z=>some (jR z t,.ptr)
  |none=>none
 | .box t x=>some (jR (iq (ael T x)) t,.ptr)
 | .buildSlice t len parts=>match uV P t with
  |some el=>match fh P el,lz P el with
   |some k,some z=>match Nat.ble (len*k) 16777216,Nat.beq (gE z) k,Nat.blt 0 k with
    |true,true,true=>match ly (λ i=>some (i*k,k)) (wG T parts.toList) (m8 z len) with
     |some l=>some (jR l el,.sl len len)
     |none=>none
    |_,_,_=>none
   |_,_=>none
  |none=>none
 | .makeSlice t l c=>match uV P t with
  |some el=>match P.info? el with
   |some inf=>match lz P el,LU (ael T l),LU (ael T c) with
    |some z,some n,some m=>match Nat.ble n m,Nat.ble (inf.bytes*m) 281474976710656,Nat.blt m lw,Nat.beq (gE z) inf.size,Nat.blt 0 inf.size,Nat.blt 0 inf.bytes with
     |true,true,true,true,true,true=>some (jR (m8 z m) el,.sl n m)
     |_,_,_,_,_,_=>none
    |_,_,_=>none
   |none=>none
  |none=>none
 | .makeMap t r=>match r with
  |none=>some (.map [] 0,.mp)
  |some r=>match P.underlying t,ael T r with
   |some (.map _ _),.int _ _=>some (.map [] 0,.mp)
   |_,_=>none
 |_=>none
inductive AN where
 |val (v:Value) (H:AH) (n:Nat)
 |ent (f:FuncId) (args:List Value)
 |rnd (l:Nat) (args:List Value)
 |dfr (d:Deferred)
 |rcv
def kQ(t:Tr Value)(i:Nat):List Value->Tr Value
 | []=>t
 |v::l=>kQ (tV t i v) (i+1) l
def kj:List Value->Bool
 | []=>true
 |v::l=>match v with
  | .agg _=>false
  | .tuple _=>false
  |_=>kj l
def pO(H:AH)(a:Addr)(vs:List Value):Option AH:=match a.spot,bP H a.block with
 |none,some (.cells n tr ty w false)=>match Nat.ble (a.off+gE vs) n,kj vs with
  |true,true=>some (cM H a.block (some (.cells n (kQ tr a.off vs) ty w false)))
  |_,_=>none
 |_,_=>none
def wJ(P:Program)(t:TypeId)(H:AH)(a:Addr)(v:Value):Option AH:=match fh P t with
 |some k=>match Nat.beq (gE (iq v)) k with
  |true=>pO H a (iq v)
  |false=>none
 |none=>none
def sJ(k v:Value)(clock:Nat):List (Value×Value×Nat)->Option (List (Value×Value×Nat)×Nat)
 | []=>some ([(k,v,clock)],clock+1)
 | (k',v',b)::l=>match ma k k' with
  |some true=>some ((k,v,b)::l,clock)
  |some false=>match sJ k v clock l with
   |some (l,c)=>some ((k',v',b)::l,c)
   |none=>none
  |none=>none
def MO(P:Program)(t:TypeId)(H:AH)(m k v:Value):Option AH:=match P.underlying t with
 |some (.map kt _)=>match Jy P kt k,m with
  |true,.map (some r)=>match bP H r with
   |some (.map es c)=>match sJ k v c es with
    |some (es,c)=>some (cM H r (some (.map es c)))
    |none=>none
   |_=>none
  |_,_=>none
 |_=>none
def qQ(H:AH)(k:Nat):Value->Option (List Value)
 | .slice none n _=>match n with
  |0=>some []
  |_+1=>none
 | .slice (some a) n _=>match a.spot,bP H a.block with
  |none,some (.cells nn tr _ _ _)=>match Nat.ble (a.off+n*k) nn with
   |true=>some (gZ tr a.off (n*k))
   |false=>none
  |_,_=>none
 |_=>none
def dY:Value->Nat
 | .slice _ n _=>n
 |_=>0
def wK(l:List Value)(ty:TypeId)(w:Nat):AB:=match dM undef l 0 .lf with
 | .lf=>.cells (gE l) .lf ty w false
 | .nd a b c=>.cells (gE l) (.nd a b c) ty w false
def sK(H:AH)(n k len add cap:Nat)(base:Option Addr)(new:List Value):Option AN:=match base with
 |some a=>match a.spot with
  |none=>match pO H ⟨a.block,a.off+len*k,none⟩ new with
   |some H=>some (.val (.slice (some a) (len+add) cap) H n)
   |none=>none
  |some _=>none
 |none=>match new with
  | []=>some (.val (.slice none (len+add) cap) H n)
  |_=>none
def jl(H:AH)(n k len add:Nat)(el:TypeId)(At new:List Value):AN:=.val (.slice (some ⟨n,0,none⟩) (len+add) lw) (cM H n (some (wK (At++new) el k))) (n+1)
def S6(H:AH)(a:Addr):Option (Nat×Nat×TypeId):=match bP H a.block with
 |some (.cells nn _ ty w false)=>some (nn,w,ty)
 |_=>none
def JB(H:AH)(n k len add cap:Nat)(a:Addr)(el:TypeId)(new:List Value):Option AN:=match a.spot,a.off,Nat.beq cap lw,S6 H a with
 |none,0,true,some (nn,w,ty)=>match Nat.beq w k,Nat.ble (len*k) nn,Nat.beq ty el with
  |true,true,true=>match Nat.ble ((len+add)*k) nn with
   |true=>sK H n k len add cap (some a) new
   |false=>match qQ H k (.slice (some a) len cap) with
    |some At=>some (jl (cM H a.block none) n k len add el At new)
    |none=>none
  |_,_,_=>none
 |_,_,_,_=>none
def JC(tr:Tr Value)(i:Nat)(new:List Value)(el:TypeId)(k:Nat):AB:=match kQ tr i new with
 | .lf=>.cells (i+gE new) .lf el k false
 | .nd a b c=>.cells (i+gE new) (.nd a b c) el k false
def uW(H:AH)(n k len add cap:Nat)(a:Addr)(el:TypeId)(new:List Value):Option AN:=match a.spot,a.off,Nat.beq cap lw,bP H a.block with
 |none,0,true,some (.cells nn tr ty w false)=>match Nat.beq w k,Nat.ble (len*k) nn,Nat.beq ty el with
  |true,true,true=>match Nat.ble ((len+add)*k) nn with
   |true=>sK H n k len add cap (some a) new
   |false=>some (.val (.slice (some ⟨n,0,none⟩) (len+add) lw) (cM (cM H a.block none) n (some (JC tr (len*k) new el k))) (n+1))
  |_,_,_=>none
 |_,_,_,_=>none
def yY(P:Program)(H:AH)(n:Nat)(el:TypeId)(x y:Value):Option AN:=match P.info? el,lz P el with
 |some inf,some z=>match inf.size,inf.bytes,x with
  |k+1,by_+1,.slice base len cap=>match qQ H (k+1) y,Nat.beq (gE z) (k+1),Nat.blt (len+dY y) 1000000,Nat.blt by_ 1000000 with
   |some new,true,true,true=>match kj new,Nat.blt cap lw with
    |true,true=>match Nat.ble (len+dY y) cap with
     |true=>sK H n (k+1) len (dY y) cap base new
     |false=>match qQ H (k+1) (.slice base len cap) with
      |some At=>some (jl H n (k+1) len (dY y) el At new)
      |none=>none
    |true,false=>match base with
     |some a=>uW H n (k+1) len (dY y) cap a el new
     |none=>none
    |_,_=>none
   |_,_,_,_=>none
  |_,_,_=>none
 |_,_=>none
def RS(P:Program)(t:TypeId):Bool:=match P.underlying t with
 |some (.slice _)=>true
 |_=>false
def JD(P:Program)(H:AH)(n:Nat)(c:Call)(T:Tr Value):Option AN:=match c with
 | ⟨_,⟨[x,y]⟩,⟨[t,u]⟩⟩=>match uV P t,RS P u with
  |some el,true=>yY P H n el (ael T x) (ael T y)
  |_,_=>none
 |_=>none
def sL(P:Program)(f:FuncId):Bool:=match P.funcs[f]? with
 | some fn=>!(fn.name == "runtime.NumGoroutine") && fn.body.isSome
 |none=>false
def rv(P:Program)(v:Value)(args:List Value):Option AN:=match v with
 | .func fn first captured=>match fn with
  | .func f=>match sL P f with
   |true=>some (.ent f (first.toList++(args++captured.toList)))
   |false=>none
  | .yield l=>match first.toList with
   | []=>some (.rnd l args)
   |_=>none
  |_=>none
 |_=>none
def JE(P:Program)(t:TypeId)(name:String):Option FuncId:=match P.info? t,Nat.blt 0 (P.types.size+Made.depth) with
 |some i,true=>match i.methods.find? (·.name == name) with
  |some m=>match m.path.toList,m.func,P.underlying t with
   | [],some (f,true),some (.pointer _)=>some f
   | [],some (_,false),some (.pointer _)=>none
   | [],some (f,false),some _=>some f
   |_,_,_=>none
  |none=>none
 |_,_=>none
def yZ(P:Program)(H:AH)(n:Nat)(el:TypeId)(x y:Value):Option AN:=match fh P el with
 |some k=>match x,y with
  | .slice (some a) dl _,.slice b sl cc=>match a.spot,qQ H k (.slice b (Nat.min sl dl) cc) with
   |none,some vs=>match pO H a vs with
    |some H=>some (.val (.int .i64 (.ofNat (Nat.min sl dl))) H n)
    |none=>none
   |_,_=>none
  |_,_=>none
 |none=>none
def za(P:Program)(H:AH)(n:Nat)(c:Call)(T:Tr Value):Option AN:=match c with
 | ⟨_,⟨[x,y]⟩,⟨[t,_]⟩⟩=>match uV P t with
  |some el=>yZ P H n el (ael T x) (ael T y)
  |none=>none
 |_=>none
def nW(P:Program)(o:Oper)(T:Tr Value)(H:AH)(n:Nat):Option AN:=match o.op with
 | .store t x y=>match ael T x with
  | .pointer (some a)=>match wJ P t H a (ael T y) with
   |some H=>some (.val undef H n)
   |none=>none
  |_=>none
 | .mapUpdate t m k v=>match MO P t H (ael T m) (ael T k) (ael T v) with
  |some H=>some (.val undef H n)
  |none=>none
 | .insert t m k v=>match MO P t H (ael T m) (ael T k) (ael T v) with
  |some H=>some (.val undef H n)
  |none=>none
 | .defer c=>match c.callee with
  | .value f=>match ael T f with
   | .func fn first captured=>some (.dfr { target:=.fn fn captured,args:=⟨first.toList++nV T c.args.toList⟩ })
   |_=>none
  |_=>none
 | .call c=>match c.callee with
  | .value f=>match rv P (ael T f) (nV T c.args.toList) with
   |some x=>some x
   |none=>match gF P T o with
    |some v=>some (.val v H n)
    |none=>none
  | .builtin b=>match b with
   | .append=>JD P H n c T
   | .copy=>za P H n c T
   | .recover=>some .rcv
   |_=>none
  | .invoke recv name=>match ael T recv with
   | .iface t v=>match JE P t name with
    |some f=>match sL P f with
     |true=>some (.ent f (v::nV T c.args.toList))
     |false=>none
    |none=>none
   |_=>none
 |_=>none
def PN(b:AB)(m:Mk)(H:AH)(n:Nat):AN:=.val (m.val n) (cM H n (some b)) (n+1)
def Di(P:Program)(G:Nat)(o:Oper)(T:Tr Value)(H:AH)(n:Nat):Option AN:=match jk o.op with
 |none=>none
 |some l=>match tW G l with
  |false=>none
  |true=>match tH P o.op with
   | .pu=>match gY P o T with
    |some v=>some (.val v H n)
    |none=>none
   | .lo=>match jJ P o T H with
    |some v=>some (.val v H n)
    |none=>none
   | .nw=>match tX P o T with
    |some (b,m)=>some (PN b m H n)
    |none=>none
   | .ef=>nW P o T H n
inductive Ex where
 |normal
 |exit (id:Nat)
 |ret
inductive Task where
 |code (r:Option Nat) (N:Nat) (c:Code) (s:St)
 |loop (r:Option Nat) (N:Nat) (c:Code) (s:St)
 |fn (f:FuncId) (args:List Value) (H:AH) (n:Nat)
 |rnd (l:Nat) (T:Tr Value) (N:Nat) (assign body:Code) (H:AH) (n:Nat)
 |dfn (f:FuncId) (args:List Value) (H:AH) (n:Nat)
inductive Rs where
 |cd (e:Ex) (s:St)
 |fn (v:Value) (H:AH) (n:Nat)
def eL(ops:Array Oper)(o:Oper)(T:Tr Value):Option Bool:=match o.guard with
 |none=>some true
 |some (j,want)=>match (ops[j]?).bind (·.dst) with
  |some d=>match cN T d with
   | .bool b=>some (b == want)
   | .tuple _=>some false
   |_=>none
  |none=>none
def fy(N:Nat)(dst:Option Tmp)(v:Value)(T:Tr Value):Option (Tr Value):=match dst with
 |none=>some T
 |some d=>match Nat.blt d N with
  |true=>some (tV T d v)
  |false=>none
def JF:List Tmp->List Value->Tr Value->Tr Value
 |p::ps,v::vs,T=>JF ps vs (tV T p v)
 |_,_,T=>T
def Dj(N:Nat):List Tmp->Bool
 | []=>true
 |p::ps=>match Nat.blt p N with
  |true=>Dj N ps
  |false=>false
inductive OpR where
 |val (v:Value) (H:AH) (n:Nat)
 |dfr (d:Deferred)
def kl(P:Program)(G:Nat)(ih:Task->Option Rs)(r:Option Nat)(o:Oper)(T:Tr Value)(H:AH)(n:Nat):Option OpR:=match Di P G o T H n with
 |none=>none
 |some x=>match x with
  | .val v H n=>some (.val v H n)
  | .ent f args=>match ih (.fn f args H n) with
   |some (.fn v H n)=>some (.val v H n)
   |_=>none
  | .rnd l args=>match bP H l with
   |some (.loop _ _ T N' ps assign body _)=>match Nat.beq (gE args) ps.size,Dj N' ps.toList with
    |true,true=>match ih (.rnd l (JF ps.toList args T) N' assign body H n) with
     |some (.fn v H n)=>some (.val v H n)
     |_=>none
    |_,_=>none
   |_=>none
  | .dfr d=>match r with
   |none=>some (.dfr d)
   |some _=>none
  | .rcv=>none
def nB(P:Program)(G:Nat)(ih:Task->Option Rs)(r:Option Nat)(N:Nat)(ops:Array Oper):List Oper->St->Option St
 | [],s=>some s
 |o::rest,s=>match eL ops o s.T with
  |none=>none
  |some false=>match fy N o.dst undef s.T with
   |some T=>nB P G ih r N ops rest ⟨T,s.D,s.H,s.n⟩
   |none=>none
  |some true=>match kl P G ih r o s.T s.H s.n with
   |none=>none
   |some (.val v H n)=>match fy N o.dst v s.T with
    |some T=>nB P G ih r N ops rest ⟨T,s.D,H,n⟩
    |none=>none
   |some (.dfr d)=>match fy N o.dst undef s.T with
    |some T=>nB P G ih r N ops rest ⟨T,d::s.D,s.H,s.n⟩
    |none=>none
mutual
def tI:Value->Value->Bool
 | .bool a,.bool b=>a == b
 | .int k a,.int k' b=>match decide (k=k') with
  |true=>a == b
  |false=>false
 | .string a,.string b=>a == b
 | .pointer a,.pointer b=>decide (a=b)
 | .slice a n c,.slice b n' c'=>match decide (a=b),Nat.beq n n',Nat.beq c c' with
  |true,true,true=>true
  |_,_,_=>false
 | .map a,.map b=>decide (a=b)
 | .func fn f c,.func fn' f' c'=>match decide (fn=fn'),FO f f' with
  |true,true=>FO c c'
  |_,_=>false
 | .nilFunc,.nilFunc=>true
 | .iface t v,.iface t' v'=>match Nat.beq t t' with
  |true=>tI v v'
  |false=>false
 | .nilIface,.nilIface=>true
 | .agg c,.agg c'=>FO c c'
 | .tuple c,.tuple c'=>FO c c'
 |_,_=>false
def FO:Array Value->Array Value->Bool
 | ⟨l⟩,⟨l'⟩=>qR l l'
def qR:List Value->List Value->Bool
 | [],[]=>true
 |v::l,v'::l'=>match tI v v' with
  |true=>qR l l'
  |false=>false
 |_,_=>false
end
def zb(e:Edge):Bool:=match e.ground with
 | .textOnly _=>false
 | .gcOnly _=>false
 |_=>true
def ko(i:Nat):List Nat->Bool
 | []=>false
 |j::l=>match Nat.beq i j with
  |true=>true
  |false=>ko i l
def MP{α:Type}:List α->Nat->Option α
 | [],_=>none
 |b::l,i=>match i with
  |0=>some b
  |i+1=>MP l i
def B0(bs:List (List Nat)):List Edge->Option (List Nat)
 | []=>some []
 |e::es=>match B0 bs es with
  |none=>none
  |some l=>match zb e with
   |false=>some l
   |true=>match MP bs e.on with
    |some b=>some (e.on::(b++l))
    |none=>none
def JG:List Oper->List (List Nat)->Option (List (List Nat))
 | [],bs=>some bs
 |o::l,bs=>match B0 bs o.after.toList with
  |some b=>JG l (bs++[b])
  |none=>none
def sM:List Operand->List Tmp
 | []=>[]
 |x::l=>match x with
  | .tmp t=>t::sM l
  |_=>sM l
def looks(ops:Array Oper)(o:Oper):Option (List Tmp):=match jk o.op with
 |none=>none
 |some l=>match o.guard with
  |none=>some (sM l)
  |some (j,_)=>match (ops[j]?).bind (·.dst) with
   |some d=>some (d::sM l)
   |none=>none
def isE(P:Program)(o:Oper):Bool:=match tH P o.op with
 | .ef=>true
 |_=>false
def isN(P:Program)(o:Oper):Bool:=match tH P o.op with
 | .nw=>true
 |_=>false
def sN(P:Program)(ops:Array Oper)(i:Nat)(o o':Oper)(b':List Nat):Bool:=match ko i b' with
 |true=>match o.dst,o'.dst with
  |some d,some d'=>!(Nat.beq d d')
  |_,_=>true
 |false=>match isE P o',isE P o || isN P o with
  |true,true=>false
  |_,_=>match looks ops o,looks ops o' with
   |some l,some l'=>match o.dst,o'.dst with
    |some d,some d'=>!(Nat.beq d d') && !(ko d l') && !(ko d' l)
    |some d,none=>!(ko d l')
    |none,some d'=>!(ko d' l)
    |none,none=>true
   |_,_=>false
def sO(P:Program)(ops:Array Oper)(o':Oper)(b':List Nat):Nat->List Oper->Bool
 |_,[]=>true
 |i,o::l=>match sN P ops i o o' b' with
  |true=>sO P ops o' b' (i+1) l
  |false=>false
def oz(G:Nat)(o:Oper):Bool:=match jk o.op with
 |some l=>tW G l
 |none=>false
def uX(P:Program)(G:Nat)(ops:Array Oper)(all:List Oper):Nat->List Oper->List (List Nat)->Bool
 |_,[],[]=>true
 |i,o::l,b::bs=>match oz G o,sO P ops o b 0 (all.take i),(looks ops o).isSome with
  |true,true,true=>uX P G ops all (i+1) l bs
  |_,_,_=>false
 |_,_,_=>false
def B1(P:Program)(G:Nat)(ops:Array Oper):Option (List (List Nat)):=match JG ops.toList [] with
 |some bs=>match uX P G ops ops.toList 0 ops.toList bs with
  |true=>some bs
  |false=>none
 |none=>none
structure DLd where
 i:Nat
 o:Oper
 b:List Nat
 T:Tr Value
 v:Value
structure DSt where
 T:Tr Value
 H:AH
 n:Nat
 pend:List (Nat×AB)
 stg:List (Nat×List Nat×AH)
 lds:List DLd
def iu(H:AH):List (Nat×AB)->AH
 | []=>H
 | (h,b)::l=>iu (cM H h (some b)) l
def TX(P:Program)(G:Nat)(ih:Task->Option Rs)(r:Option Nat)(N:Nat)(ops:Array Oper)(i:Nat)(o:Oper)(b:List Nat)(s:DSt):Option DSt:=match eL ops o s.T with
 |none=>none
 |some false=>match fy N o.dst undef s.T with
  |some T=>some { s with T:=T }
  |none=>none
 |some true=>match tH P o.op with
  | .pu=>match gY P o s.T with
   |some v=>match fy N o.dst v s.T with
    |some T=>some { s with T:=T }
    |none=>none
   |none=>none
  | .lo=>match jJ P o s.T s.H with
   |some v=>match fy N o.dst v s.T with
    |some T=>some { s with T:=T,lds:=⟨i,o,b,s.T,v⟩::s.lds }
    |none=>none
   |none=>none
  | .nw=>match tX P o s.T with
   |some (bl,m)=>match fy N o.dst (m.val s.n) s.T with
    |some T=>some { s with T:=T,n:=s.n+1,pend:=s.pend++[(s.n,bl)] }
    |none=>none
   |none=>none
  | .ef=>match iu s.H s.pend with
   |H=>match kl P G ih r o s.T H s.n with
    |some (.val v H' n')=>match fy N o.dst v s.T with
     |some T=>some { s with T:=T,H:=H',n:=n',pend:=[],stg:=s.stg++[(i,b,H')] }
     |none=>none
    |_=>none
def zc(P:Program)(G:Nat)(ih:Task->Option Rs)(r:Option Nat)(N:Nat)(ops:Array Oper):Nat->List Oper->List (List Nat)->DSt->Option DSt
 |_,[],_,s=>some s
 |i,o::l,b::bs,s=>match TX P G ih r N ops i o b s with
  |some s=>zc P G ih r N ops (i+1) l bs s
  |none=>none
 |_,_,_,_=>none
def S7(P:Program)(d:DLd)(H:AH):Bool:=match jJ P d.o d.T H with
 |some v=>tI d.v v
 |none=>false
def tY(P:Program)(d:DLd):List Nat->AH->List (Nat×List Nat×AH)->Bool
 |be,H,[]=>match ko d.i be with
  |true=>true
  |false=>S7 P d H
 |be,H,(e,be',H')::l=>match ko d.i be || ko e d.b with
  |true=>tY P d be' H' l
  |false=>match S7 P d H with
   |true=>tY P d be' H' l
   |false=>false
def Dk(P:Program)(H:AH)(stg:List (Nat×List Nat×AH)):List DLd->Bool
 | []=>true
 |d::l=>match tY P d [] H stg with
  |true=>Dk P H stg l
  |false=>false
def PO(P:Program)(G:Nat)(ih:Task->Option Rs)(r:Option Nat)(N:Nat)(ops:Array Oper)(s:St):Option St:=match B1 P G ops with
 |none=>none
 |some bs=>match zc P G ih r N ops 0 ops.toList bs ⟨s.T,s.H,s.n,[],[],[]⟩ with
  |none=>none
  |some d=>match Dk P s.H d.stg d.lds with
   |true=>some ⟨d.T,s.D,iu d.H d.pend,d.n⟩
   |false=>none
def Dl:Code->Option Ex
 | .ret=>some .ret
 | .exit id=>some (.exit id)
 |_=>none
def ju(P:Program)(G:Nat)(ih:Task->Option Rs)(r:Option Nat)(N:Nat):Code->St->Option (Ex×St)
 | .skip,s=>some (.normal,s)
 | .label _,s=>some (.normal,s)
 | .region _ ops draw,s=>match draw with
  |false=>match nB P G ih r N ops ops.toList s with
   |some s=>some (.normal,s)
   |none=>none
  |true=>match PO P G ih r N ops s with
   |some s=>some (.normal,s)
   |none=>none
 | .seq a b,s=>match ju P G ih r N a s with
  |some (.normal,s)=>ju P G ih r N b s
  |x=>x
 | .cond c x y,s=>match ael s.T c with
  | .bool true=>ju P G ih r N x s
  | .bool false=>ju P G ih r N y s
  |_=>none
 | .block id c,s=>match ju P G ih r N c s with
  |some (.exit XU,s)=>match Nat.beq XU id with
   |true=>some (.normal,s)
   |false=>some (.exit XU,s)
  |x=>x
 | .loop c,s=>match ju P G ih r N c s with
  |some (.normal,s)=>match ih (.loop r N c s) with
   |some (.cd e s)=>some (e,s)
   |_=>none
  |x=>x
 | .rangeFunc g ps assign body,s=>match ael s.T g,S5 G g with
  | .func (.func f) first captured,true=>match sL P f with
   |true=>match (match r with
    |none=>some (s.n,(⟨{ target:=.collected s.n,args:=#[] },[]⟩:Deferred×List Deferred).1::s.D,cM s.H s.n (some (.dfr false)),s.n+1)
    |some l0=>match bP s.H l0 with
     |some (.loop _ _ _ _ _ _ _ d)=>some (d,s.D,s.H,s.n)
     |_=>none) with
    |some (d,D,H,n)=>match ih (.fn f (first.toList++(.func (.yield n) #[] #[]::captured.toList)) (cM H n (some (.loop .ready none s.T N ps assign body d))) (n+1)) with
     |some (.fn _ H' n')=>match bP H' n with
      |some (.loop st pend T' N' Zc YV bo' d')=>match st with
       | .busy=>none
       |_=>match pend with
        |none=>some (.normal,⟨s.T,D,cM H' n (some (.loop .exhausted pend T' N' Zc YV bo' d')),n'⟩)
        |some c=>match Dl c with
         |some e=>some (e,⟨s.T,D,cM H' n (some (.loop .exhausted pend T' N' Zc YV bo' d')),n'⟩)
         |none=>none
      |_=>none
     |_=>none
    |none=>none
   |false=>none
  |_,_=>none
 | .exit id,s=>some (.exit id,s)
 | .scope c,s=>ju P G ih r N c s
 | .goto _,_=>none
 | .ret,s=>some (.ret,s)
 | .refuse _,_=>none
def pP(P:Program)(T:Tr Value)(H:AH):List ResultVar->Option (List Value)
 | []=>some []
 | .tmp t::l=>match pP P T H l with
  |some vs=>some (cN T t::vs)
  |none=>none
 | .cell a t::l=>match cN T a with
  | .pointer (some a)=>match uU P t H a,pP P T H l with
   |some v,some vs=>some (v::vs)
   |_,_=>none
  |_=>none
def zd:List Value->Value
 | [v]=>v
 |l=>.tuple ⟨l⟩
def kR(P:Program)(ih:Task->Option Rs):List Deferred->AH->Nat->Option (AH×Nat)
 | [],H,n=>some (H,n)
 |d::ds,H,n=>match d.target with
  | .collected h=>match bP H h with
   |some (.dfr false)=>kR P ih ds (cM H h (some (.dfr true))) n
   |_=>none
  | .fn (.func f) captured=>match sL P f with
   |true=>match ih (.dfn f (d.args.toList++captured.toList) H n) with
    |some (.fn _ H n)=>kR P ih ds H n
    |_=>none
   |false=>none
  |_=>none
def nX(P:Program)(G:Nat)(N:Nat)(ops:Array Oper):List Oper->St->Option St
 | [],s=>some s
 |o::rest,s=>match eL ops o s.T with
  |none=>none
  |some false=>match fy N o.dst undef s.T with
   |some T=>nX P G N ops rest ⟨T,s.D,s.H,s.n⟩
   |none=>none
  |some true=>match Di P G o s.T s.H s.n with
   |some (.val v H n)=>match fy N o.dst v s.T with
    |some T=>nX P G N ops rest ⟨T,s.D,H,n⟩
    |none=>none
   |some .rcv=>match fy N o.dst .nilIface s.T with
    |some T=>nX P G N ops rest ⟨T,s.D,s.H,s.n⟩
    |none=>none
   |_=>none
def JH(P:Program)(G:Nat)(ih:Task->Option Rs)(N:Nat):Code->St->Option (Ex×St)
 | .seq a b,s=>match JH P G ih N a s with
  |some (.normal,s)=>JH P G ih N b s
  |x=>x
 | .cond c x y,s=>match ael s.T c with
  | .bool true=>JH P G ih N x s
  | .bool false=>JH P G ih N y s
  |_=>none
 | .region id ops false,s=>match nX P G N ops ops.toList s with
  |some s=>some (.normal,s)
  |none=>match ju P G ih none N (.region id ops false) s with
   |some x=>some x
   |none=>none
 |c,s=>ju P G ih none N c s
def nC(args:List Value):Tr Value:=dM undef args 0 .lf
def sP(P:Program)(f:FuncId):Option (Func×Code):=match P.funcs[f]? with
 |some fn=>match fn.body with
  |some c=>some (fn,c)
  |none=>none
 |none=>none
def g9(P:Program)(G:Nat)(ih:Task->Option Rs):Task->Option Rs
 | .code r N c s=>match ju P G ih r N c s with
  |some (e,s)=>some (.cd e s)
  |none=>none
 | .loop r N c s=>match ju P G ih r N (.loop c) s with
  |some (e,s)=>some (.cd e s)
  |none=>none
 | .fn f args H n=>match sP P f with
  |some (fn,c)=>match Nat.ble (gE args) fn.ntmps with
   |true=>match ju P G ih none fn.ntmps c ⟨nC args,[],H,n⟩ with
    |some (.exit _,_)=>none
    |some (_,s)=>match kR P ih s.D s.H s.n with
     |some (H,n)=>match pP P s.T H fn.results.toList with
      |some vs=>some (.fn (zd vs) H n)
      |none=>none
     |none=>none
    |none=>none
   |false=>none
  |none=>none
 | .rnd l T N assign body H n=>match ju P G ih (some l) N assign ⟨T,[],H,n⟩ with
  |some (.normal,s)=>match bP s.H l,s.D with
   |some (.loop .ready pend T' N' ps YV bo d),[]=>match ju P G ih (some l) N body ⟨s.T,[],cM s.H l (some (.loop .busy pend T' N' ps YV bo d)),s.n⟩ with
    |some (e,s)=>match bP s.H l with
     |some (.loop _ _ T' N' ps YV bo d)=>match e with
      | .normal=>some (.fn (.bool true) (cM s.H l (some (.loop .ready none T' N' ps YV bo d))) s.n)
      | .ret=>some (.fn (.bool false) (cM s.H l (some (.loop .done (some .ret) T' N' ps YV bo d))) s.n)
      | .exit id=>some (.fn (.bool false) (cM s.H l (some (.loop .done (some (.exit id)) T' N' ps YV bo d))) s.n)
     |_=>none
    |none=>none
   |_,_=>none
  |_=>none
 | .dfn f args H n=>match sP P f with
  |some (fn,c)=>match Nat.ble (gE args) fn.ntmps with
   |true=>match JH P G ih fn.ntmps c ⟨nC args,[],H,n⟩ with
    |some (.exit _,_)=>none
    |some (_,s)=>match s.D with
     | []=>match pP P s.T s.H fn.results.toList with
      |some vs=>some (.fn (zd vs) s.H s.n)
      |none=>none
     |_=>none
    |none=>none
   |false=>none
  |none=>none
def JI(P:Program)(G:Nat):Nat->Task->Option Rs
 |0,_=>none
 |k+1,t=>g9 P G (JI P G k) t
end
section
variable {K i j k off:Nat} {UH l' vs:List Value} {Zc ps:List (Nat×Value)} {b:Bool} {ft t:TypeId} {o:Oper} {p:List Bool} {tm:Array Value} {v':Value} {w:World} {α:Type} {ρ:Operand->Value}
section tr
variable {α:Type} {d x:α}
theorem ze:Tr.getP d [] .lf=d:=rfl
theorem zf{v:α}{l r:Tr α}:Tr.getP d [] (.nd v l r)=v:=rfl
theorem o9:Tr.getP d (b::p) .lf=d:=rfl
theorem fA{v:α}{l r:Tr α}:Tr.getP d (b::p) (.nd v l r)=Tr.getP d p (match b with|true=>r|false=>l):=by cases b <;> rfl
theorem rx:Tr.getP d p .lf=d:=by cases p <;> rfl
theorem zg:Tr.setP d x [] .lf=.nd x .lf .lf:=rfl
theorem zh{v:α}{l r:Tr α}:Tr.setP d x [] (.nd v l r)=.nd x l r:=rfl
theorem kS:Tr.setP d x (b::p) .lf=(match b with|true=>.nd d .lf (Tr.setP d x p .lf)|false=>.nd d (Tr.setP d x p .lf) .lf):=by cases b <;> rfl
theorem kT{v:α}{l r:Tr α}:Tr.setP d x (b::p) (.nd v l r)=(match b with|true=>.nd v l (Tr.setP d x p r)|false=>.nd v (Tr.setP d x p l) r):=by cases b <;> rfl
theorem JK:∀t:Tr α,Tr.getP d p (Tr.setP d x p t)=x:=by
 induction p with
 |nil=>intro t;cases t <;> rfl
 |cons b p ih=>
  intro t;cases t with
  |lf=>rw[kS];cases b <;> simp only[fA] <;> exact ih _
  |nd v l r=>rw[kT];cases b <;> simp only[fA] <;> exact ih _
theorem zi:∀ (p q:List Bool) (t:Tr α),p≠q->Tr.getP d q (Tr.setP d x p t)=Tr.getP d q t:=by
 intro p
 induction p with
 |nil=>
  intro q t h;cases q with
  |nil=>exact absurd rfl h
  |cons c q=>cases t <;> cases c <;> simp[zg,zh,fA,o9,rx]
 |cons b p ih=>
  intro q t h;cases q with
  |nil=>cases t <;> cases b <;> simp[kS,kT,zf,ze]
  |cons c q=>
   cases t with
   |lf=>
    rw[kS,o9];cases b <;> cases c <;> simp only[fA,rx] <;> (rw[ih _ _ (λ e=>h (by rw[e]))];exact rx)
   |nd v l r=>
    rw[kT,fA];cases b <;> cases c <;> simp only[fA] <;> exact ih _ _ (λ e=>h (by rw[e]))
theorem FP(k i:Nat):Jt (k+1) (i+1)=(Nat.beq (i%2) 1::Jt k (i/2)):=rfl
def TY:List Bool->Nat
 | []=>0
 |b::p=>2*TY p+(match b with|true=>1|false=>0)+1
theorem Dm:∀k i,i<=k->TY (Jt k i)=i:=by
 intro k
 induction k with
 |zero=>
  intro i h;obtain rfl:i=0:=by omega
  rfl
 |succ k ih=>
  intro i h;cases i with
  |zero=>rfl
  |succ i=>
   rw[FP];show 2*TY (Jt k (i/2))+(match Nat.beq (i%2) 1 with|true=>1|false=>0)+1=i+1;rw[ih _ (by omega)];rcases Nat.mod_two_eq_zero_or_one i with e|e <;> rw[e] <;> simp <;> omega
theorem MQ(h:pth i=pth j):i=j:=by
 have h1:=Dm i i (aaI _);have h2:=Dm j j (aaI _);unfold pth at h;rw[h] at h1;exact h1.symm.trans h2
theorem MR{t:Tr α}:Tr.get d (Tr.set d x t i) i=x:=JK _
theorem sQ{t:Tr α}(h:i≠j):Tr.get d (Tr.set d x t i) j=Tr.get d t j:=zi _ _ _ λ e=>h (MQ e)
theorem B2:Tr.get d (.lf:Tr α) i=d:=rx
theorem jm{t:Tr α}:Tr.get d (Tr.set d x t i) j=if i=j then x else Tr.get d t j:=by
 split
 ·rename_i e;subst e;exact MR
 ·rename_i e;exact sQ e
theorem JL(y:α)(l:List α)(i:Nat)(t:Tr α):dM d (y::l) i t=dM d l (i+1) (Tr.set d y t i):=by
 rw[dM];split <;> rename_i h <;> rw[h]
theorem ry:∀ (l:List α) (i:Nat) (t:Tr α) (j:Nat),Tr.get d (dM d l i t) j=if i<=j then (if h:j-i<l.length then l[j-i] else Tr.get d t j) else Tr.get d t j
 | [],i,t,j=>by simp[dM]
 |y::l,i,t,j=>by
  rw[JL,ry l,jm]
  by_cases h1:i=j
  ·subst h1;simp;intro h;omega
  ·by_cases h2:i<=j
   ·have h3:i+1<=j:=by omega
    have h4:j-i=(j-(i+1))+1:=by omega
    simp only[h1,h2,h3,if_true,if_false,h4,aaN,Nat.add_lt_add_iff_right,ac2]
   ·have h3:¬ i+1<=j:=by omega
    simp[h1,h2,h3]
end tr
abbrev Nu:=Nat->Option (Nat×Nat)
def Nu.Le(ν ν':Nu):Prop:=∀h x,ν h=some x->ν' h=some x
theorem Nu.Le.refl(ν:Nu):ν.Le ν:=λ _ _ h=>h
theorem Nu.Le.trans{a b c:Nu}(h:a.Le b)(h':b.Le c):a.Le c:=λ _ _ e=>h' _ _ (h _ _ e)
def Nu.upd(ν:Nu)(h r K:Nat):Nu:=λ k=>if k=h then some (r,K) else ν k
theorem cf{ν:Nu}{h r:Nat}:ν.upd h r K h=some (r,K):=if_pos rfl
theorem eO{ν:Nu}{h r:Nat}(e:k≠h):ν.upd h r K k=ν k:=if_neg e
theorem kq{ν:Nu}{h r:Nat}(e:ν h=none):ν.Le (ν.upd h r K):=λ k x hx=>by
 rw[eO];exact hx;intro e';subst e';rw[e] at hx;cases hx
def cw:Value->Bool
 | .bool _=>true
 | .int _ _=>true
 | .float _ _=>true
 | .complex _ _ _=>true
 | .string _=>true
 | .pointer none=>true
 | .slice none _ _=>true
 | .map none=>true
 | .nilFunc=>true
 | .nilIface=>true
 |_=>false
inductive FnR(ν:Nu):Fn->Fn->Prop
 |func (f:FuncId):FnR ν (.func f) (.func f)
 |yield {l b K:Nat}:ν l=some (b,K)->FnR ν (.yield l) (.yield b)
def TZ(K c c':Nat):Prop:=(c<lw->c'=c)/\(lw<=c->c'+(c-lw)=K)
inductive VRi(ν:Nu):Value->Value->Prop
 |atom (v:Value):cw v=true->VRi ν v v
 |ptr {h b K:Nat} (o:Nat):ν h=some (b,K)->VRi ν (.pointer (some ⟨h,o,none⟩)) (.pointer (some ⟨b,o,none⟩))
 |slice {h b K c c':Nat} (o n:Nat):ν h=some (b,K)->TZ K c c'->VRi ν (.slice (some ⟨h,o,none⟩) n c) (.slice (some ⟨b,o,none⟩) n c')
 |map {h b K:Nat}:ν h=some (b,K)->VRi ν (.map (some h)) (.map (some b))
 |func {fn fn':Fn} {f f' c c':Array Value}:FnR ν fn fn'->f.size=f'.size->(∀ (i:Nat) (v v':Value),f[i]?=some v->f'[i]?=some v'->VRi ν v v')->c.size=c'.size->(∀ (i:Nat) (v v':Value),c[i]?=some v->c'[i]?=some v'->VRi ν v v')->VRi ν (.func fn f c) (.func fn' f' c')
 |iface {v v':Value} (t:TypeId):VRi ν v v'->VRi ν (.iface t v) (.iface t v')
 |agg {c c':Array Value}:c.size=c'.size->(∀ (i:Nat) (v v':Value),c[i]?=some v->c'[i]?=some v'->VRi ν v v')->VRi ν (.agg c) (.agg c')
 |tuple {c c':Array Value}:c.size=c'.size->(∀ (i:Nat) (v v':Value),c[i]?=some v->c'[i]?=some v'->VRi ν v v')->VRi ν (.tuple c) (.tuple c')
inductive LR(ν:Nu):List Value->List Value->Prop
 |nil:LR ν [] []
 |cons {v v':Value} {l l':List Value}:VRi ν v v'->LR ν l l'->LR ν (v::l) (v'::l')
section vr
variable {ν ν':Nu}
theorem FnR.mono{f f':Fn}(h:FnR ν f f')(hl:ν.Le ν'):FnR ν' f f':=by
 cases h with
 |func f=>exact .func f
 |yield h=>exact .yield (hl _ _ h)
theorem VRi.mono{v:Value}(h:VRi ν v v')(hl:ν.Le ν'):VRi ν' v v':=by
 induction h with
 |atom v h=>exact .atom v h
 |ptr o h=>exact .ptr o (hl _ _ h)
 |slice o n h c=>exact .slice o n (hl _ _ h) c
 |map h=>exact .map (hl _ _ h)
 |func hf e1 _ e2 _ Zm Zl=>exact .func (hf.mono hl) e1 Zm e2 Zl
 |iface t _ ih=>exact .iface t ih
 |agg e _ ih=>exact .agg e ih
 |tuple e _ ih=>exact .tuple e ih
theorem LR.mono{l:List Value}(h:LR ν l l')(hl:ν.Le ν'):LR ν' l l':=by
 induction h with
 |nil=>exact .nil
 |cons h _ ih=>exact .cons (h.mono hl) ih
theorem LR.length{l:List Value}(h:LR ν l l'):l'.length=l.length:=by
 induction h with
 |nil=>rfl
 |cons _ _ ih=>simp[ih]
theorem LR.get{l:List Value}(h:LR ν l l'){v:Value}(hv:l[i]?=some v):∃v',l'[i]?=some v'/\VRi ν v v':=by
 induction h generalizing i with
 |nil=>simp at hv
 |cons hd _ ih=>
  cases i with
  |zero=>simp at hv;subst hv;exact⟨_,rfl,hd⟩
  |succ i=>simp at hv;simpa using ih hv
theorem LR.of_get{l:List Value}(e:l.length=l'.length)(h:∀ (i:Nat) (v v':Value),l[i]?=some v->l'[i]?=some v'->VRi ν v v'):LR ν l l':=by
 induction l generalizing l' with
 |nil=>cases l' with
  |nil=>exact .nil
  |cons _ _=>simp at e
 |cons v l ih=>cases l' with
  |nil=>simp at e
  |cons v' l'=>exact .cons (h 0 v v' rfl rfl) (ih (by simpa using e) λ i u u' hu hu'=>h (i+1) u u' (by simpa using hu) (by simpa using hu'))
theorem LR.of_arr{c c':Array Value}(e:c.size=c'.size)(h:∀ (i:Nat) (v v':Value),c[i]?=some v->c'[i]?=some v'->VRi ν v v'):LR ν c.toList c'.toList :=
 .of_get (by simpa using e) λ i v v' h1 h2=>h i v v' (by simpa using h1) (by simpa using h2)
theorem LR.arr{l:List Value}(h:LR ν l l'):(⟨l⟩:Array Value).size=(⟨l'⟩:Array Value).size/\(∀ (i:Nat) (v v':Value),(⟨l⟩:Array Value)[i]?=some v->(⟨l'⟩:Array Value)[i]?=some v'->VRi ν v v'):=by
 refine⟨by simp[h.length],λ i v v' h1 h2=>?_⟩;obtain⟨u,hu,hr⟩:=h.get (i:=i) (v:=v) (by simpa using h1);have:u=v':=by
  have h2':l'[i]?=some v':=by simpa using h2
  rw[hu] at h2';simpa using h2'
 subst this;exact hr
theorem VRi.agg_of{l:List Value}(h:LR ν l l'):VRi ν (.agg ⟨l⟩) (.agg ⟨l'⟩):=.agg h.arr.1 h.arr.2
theorem VRi.tuple_of{l:List Value}(h:LR ν l l'):VRi ν (.tuple ⟨l⟩) (.tuple ⟨l'⟩):=.tuple h.arr.1 h.arr.2
theorem VRi.func_of{fn fn':Fn}{l c c':List Value}(hf:FnR ν fn fn')(h:LR ν l l')(k:LR ν c c'):VRi ν (.func fn ⟨l⟩ ⟨c⟩) (.func fn' ⟨l'⟩ ⟨c'⟩):=.func hf h.arr.1 h.arr.2 k.arr.1 k.arr.2
theorem VRi.undef:VRi ν undef undef:=.tuple rfl (by simp)
theorem LR.append{a a' b b':List Value}(h:LR ν a a')(k:LR ν b b'):LR ν (a++b) (a'++b'):=by
 induction h with
 |nil=>exact k
 |cons h _ ih=>exact .cons h ih
theorem VRi.plain_refl:∀ (v:Value),pl v=true->VRi ν v v:=by
 intro v;refine Value.rec (motive_1:=λ v=>pl v=true->VRi ν v v) (motive_2:=λ a=>Oy a=true->LR ν a.toList a.toList) (motive_3:=λ l=>yT l=true->LR ν l l)
  ?_ ?_ ?_ ?_ ?_ ?_ ?_ ?_ ?_ ?_ ?_ ?_ ?_ ?_ ?_ ?_ ?_ ?_ v
 case _=>exact λ b _=>.atom _ rfl
 case _=>exact λ b _ _=>.atom _ rfl
 case _=>exact λ b _ _=>.atom _ rfl
 case _=>exact λ b _ _ _=>.atom _ rfl
 case _=>exact λ b _=>.atom _ rfl
 case _=>intro a h;cases a with
  |none=>exact .atom _ rfl
  |some a=>simp[pl] at h
 case _=>intro a n c h;cases a with
  |none=>exact .atom _ rfl
  |some a=>simp[pl] at h
 case _=>intro a h;cases a with
  |none=>exact .atom _ rfl
  |some a=>simp[pl] at h
 case _=>intro a h;simp[pl] at h
 case _=>
  intro fn f c Zm Zl h;cases fn with
  |func g=>
   rw[pl] at h;split at h
   ·rename_i e;have:=VRi.func_of (FnR.func (ν:=ν) g) (Zm e) (Zl h);exact this
   ·cases h
  |_=>simp[pl] at h
 case _=>exact λ _=>.atom _ rfl
 case _=>intro t v ih h;exact .iface t (ih (by simpa [pl] using h))
 case _=>exact λ _=>.atom _ rfl
 case _=>intro c ih h;exact .agg_of (ih (by simpa [pl] using h))
 case _=>intro c ih h;exact .tuple_of (ih (by simpa [pl] using h))
 case _=>intro l ih h;exact ih (by simpa [Oy] using h)
 case _=>exact λ _=>.nil
 case _=>
  intro v l Zm Zl h;rw[yT] at h;split at h
  ·rename_i e;exact .cons (Zm e) (Zl h)
  ·cases h
theorem VRi.plain_eq{v:Value}(h:VRi ν v v')(hp:pl v=true):v'=v:=by
 have key:∀ (l l':List Value),LR ν l l'->(∀v∈l,∀v',VRi ν v v'->pl v=true->v'=v)->yT l=true->l'=l:=by
  intro l l' hl
  induction hl with
  |nil=>intros;rfl
  |cons hd _ ih=>
   intro hv hpl;rw[yT] at hpl;split at hpl
   ·rename_i e;rw[hv _ aaD _ hd e,ih (λ v hm=>hv v (aaE _ hm)) hpl]
   ·cases hpl
 have arr:∀ (c c':Array Value),c.size=c'.size->(∀ (i:Nat) (v v':Value),c[i]?=some v->c'[i]?=some v'->VRi ν v v')->(∀ (i:Nat) (v v':Value),c[i]?=some v->c'[i]?=some v'->pl v=true->v'=v)->Oy c=true->c'=c:=by
  intro c c' e h1 h2 hp;obtain⟨l⟩:=c;obtain⟨l'⟩:=c';have hl:=LR.of_arr e h1;rw[Oy] at hp;have Q_:∀v∈l,pl v=true:=by
   clear h1 h2 e hl
   induction l with
   |nil=>intro v hv;cases hv
   |cons u l ih=>
    rw[yT] at hp;split at hp
    ·rename_i eu;intro v hv;rcases abs.1 hv with rfl|hv
     ·exact eu
     ·exact ih hp v hv
    ·cases hp
  congr 1;apply abP;intro i;cases hi:l[i]? with
  |none=>
   have e':l.length=l'.length:=by simpa using e
   rw[List.getElem?_eq_none_iff] at hi ⊢;omega
  |some v=>
   obtain⟨v',h3,h4⟩:=hl.get hi;simp only at h3;rw[h3,h2 i v v' (by simpa using hi) (by simpa using h3) (Q_ v (np hi))]
 induction h with
 |atom v h=>rfl
 |ptr o h=>simp[pl] at hp
 |slice o n h c=>simp[pl] at hp
 |map h=>simp[pl] at hp
 |func hf e1 h1 e2 h2 Zm Zl=>
  cases hf with
  |func g=>
   rw[pl] at hp;split at hp
   ·rename_i e;rw[arr _ _ e1 h1 Zm e,arr _ _ e2 h2 Zl hp]
   ·cases hp
  |yield _=>simp[pl] at hp
 |iface t _ ih=>rw[ih (by simpa [pl] using hp)]
 |agg e h1 ih=>rw[arr _ _ e h1 ih (by simpa [pl] using hp)]
 |tuple e h1 ih=>rw[arr _ _ e h1 ih (by simpa [pl] using hp)]
end vr
theorem sR{β γ:Type}(s:Sem α)(f:α->Sem β)(g:β->Sem γ):(s.bind f).bind g=s.bind λ x=>(f x).bind g:=by
 induction s <;> simp only[Sem.bind] <;> first|rfl|(congr 1;funext x;rename_i ih;exact ih x)|(rename_i ih;rw[ih])
theorem tZ(s:Sem α):s.bind .pure=s:=by
 induction s <;> simp only[Sem.bind] <;> first|rfl|(congr 1;funext x;rename_i ih;exact ih x)|(rename_i ih;rw[ih])
theorem jn:LawfulMonad Sem:=LawfulMonad.mk' (m:=Sem)
 (id_map:=λ x=>tZ x) (pure_bind:=λ _ _=>rfl) (bind_assoc:=λ x f g=>sR x f g)
section lists
variable {ν:Nu} {P:Program}
theorem d9(l:List Value):gE l=l.length:=by induction l with
 |nil=>rfl
 |cons v l ih=>simp[gE,ih]
theorem gG(v:Value):iq v=v.cells.toList:=by cases v <;> rfl
theorem kU{v v':Value}(h:VRi ν v v'):LR ν (iq v) (iq v'):=by
 cases h with
 |atom v h=>cases v <;> first|exact .cons (.atom _ h) .nil|simp[cw] at h
 |ptr o h=>exact .cons (.ptr o h) .nil
 |slice o n h c=>exact .cons (.slice o n h c) .nil
 |map h=>exact .cons (.map h) .nil
 |func hf e1 h1 e2 h2=>exact .cons (.func hf e1 h1 e2 h2) .nil
 |iface t h=>exact .cons (.iface t h) .nil
 |agg e h=>exact .of_arr e h
 |tuple e h=>exact .cons (.tuple e h) .nil
theorem kV(l:List Value)(i:Nat):o7 l i=l[i]?:=by
 induction l generalizing i with
 |nil=>rfl
 |cons v l ih=>cases i with
  |zero=>rfl
  |succ i=>simpa [o7] using ih i
theorem zj(l:List Value)(i:Nat):uS l i=l.drop i:=by
 induction l generalizing i with
 |nil=>simp[uS]
 |cons v l ih=>cases i with
  |zero=>rfl
  |succ i=>simpa [uS] using ih i
theorem zk(l:List Value)(i:Nat):uT l i=l.take i:=by
 induction l generalizing i with
 |nil=>simp[uT]
 |cons v l ih=>cases i with
  |zero=>rfl
  |succ i=>simpa [uT] using ih i
theorem LR.drop{l:List Value}(h:LR ν l l')(n:Nat):LR ν (l.drop n) (l'.drop n):=by
 induction h generalizing n with
 |nil=>simpa using LR.nil
 |cons h1 h2 ih=>cases n with
  |zero=>exact .cons h1 h2
  |succ n=>simpa using ih n
theorem LR.take{l:List Value}(h:LR ν l l')(n:Nat):LR ν (l.take n) (l'.take n):=by
 induction h generalizing n with
 |nil=>simpa using LR.nil
 |cons h1 h2 ih=>cases n with
  |zero=>simpa using LR.nil
  |succ n=>simpa using LR.cons h1 (ih n)
theorem uY(h:LR ν vs UH):∀ {l l' r:List Value},LR ν l l'->lx vs l=some r->∃r',lx UH l'=some r'/\LR ν r r':=by
 induction h with
 |nil=>intro l l' r hl e;rw[lx] at e;cases e;exact⟨_,rfl,hl⟩
 |cons hv _ ih=>
  intro l l' r hl e;cases hl with
  |nil=>simp[lx] at e
  |cons h1 h2=>
   rw[lx] at e;split at e
   ·rename_i r0 hr;cases e;obtain⟨r1,e1,e2⟩:=ih h2 hr;exact⟨_,by rw[lx,e1],.cons hv e2⟩
   ·cases e
theorem FQ(h:LR ν vs UH):∀ {l l' r:List Value} (i:Nat),LR ν l l'->fi vs l i=some r->∃r',fi UH l' i=some r'/\LR ν r r':=by
 intro l l' r i hl
 induction hl generalizing i r with
 |nil=>
  intro e;cases i with
  |zero=>exact uY h .nil e
  |succ i=>simp[fi] at e
 |cons h1 h2 ih=>
  intro e;cases i with
  |zero=>exact uY h (.cons h1 h2) e
  |succ i=>
   rw[fi] at e;split at e
   ·rename_i r0 hr;cases e;obtain⟨r1,e1,e2⟩:=ih i hr;exact⟨_,by rw[fi];simp only[e1],.cons h1 e2⟩
   ·cases e
inductive PR(ν:Nu):List (Nat×Value)->List (Nat×Value)->Prop
 |nil:PR ν [] []
 |cons {v v':Value} {l l':List (Nat×Value)} (i:Nat):VRi ν v v'->PR ν l l'->PR ν ((i,v)::l) ((i,v')::l')
theorem pQ{place:Nat->Option (Nat×Nat)}(h:PR ν ps Zc):∀ {l l' r:List Value},LR ν l l'->ly place ps l=some r->∃r',ly place Zc l'=some r'/\LR ν r r':=by
 induction h with
 |nil=>intro l l' r hl e;rw[ly] at e;cases e;exact⟨_,rfl,hl⟩
 |cons i hv _ ih=>
  intro l l' r hl e;rw[ly] at e;split at e
  ·rename_i off k hp;split at e
   ·cases e
   ·rename_i hb;split at e
    ·rename_i l1 hl1;have hc:=kU hv;obtain⟨l2,e1,e2⟩:=FQ hc off hl hl1;obtain⟨r',e3,e4⟩:=ih e2 e;refine⟨r',?_,e4⟩;rw[ly,hp];simp only[e1,e3];rw[d9] at hb ⊢;rw[hc.length,hb]
    ·cases e
  ·cases e
theorem uZ(l:List Value):lx [] l=some l:=by cases l <;> rfl
theorem u9{l r:List Value}(h:fi [] l i=some r):r=l:=by
 induction l generalizing i r with
 |nil=>cases i with
  |zero=>rw[fi] at h;simp only[uZ] at h;cases h;rfl
  |succ i=>simp[fi] at h
 |cons x l ih=>cases i with
  |zero=>rw[fi] at h;simp only[uZ] at h;cases h;rfl
  |succ i=>
   rw[fi] at h;split at h
   ·rename_i l1 hl;cases h;rw[ih hl]
   ·cases h
theorem sS{v:Value}{l r:List Value}(h:fi (v::vs) l i=some r):i<l.length/\fi vs (l.set i v) (i+1)=some r:=by
 induction l generalizing i r with
 |nil=>cases i <;> simp[fi,lx] at h
 |cons x l ih=>cases i with
  |zero=>
   rw[fi] at h;simp only[lx] at h;split at h
   ·rename_i l1 hl;cases h;refine⟨by simp,?_⟩;simp only[List.set_cons_zero];rw[fi];cases l with
    |nil=>rw[fi];simp only[hl]
    |cons y l=>rw[fi];simp only[hl]
   ·cases h
  |succ i=>
   rw[fi] at h;split at h
   ·rename_i l1 hl;cases h;obtain⟨h1,h2⟩:=ih hl;refine⟨by simp;omega,?_⟩;simp only[List.set_cons_succ];rw[fi];simp only[h2]
   ·cases h
theorem FR{l r:List Value}(h:fi vs l i=some r):r.length=l.length/\(vs≠[]->i+vs.length<=l.length):=by
 induction vs generalizing l i with
 |nil=>rw[u9 h];simp
 |cons v vs ih=>
  obtain⟨h1,h2⟩:=sS h;obtain⟨h3,h4⟩:=ih h2;rw[abE] at h3 h4;refine⟨h3,λ _=>?_⟩;cases vs with
  |nil=>simp;omega
  |cons u vs=>have:=h4 (by simp);simp at this ⊢;omega
theorem B3{l r:List Value}(h:fi vs l (off+k)=some r):(vs.zipIdx k).foldl (λ (cs:Array Value) p=>cs.setIfInBounds (off+p.2) p.1) ⟨l⟩=⟨r⟩:=by
 induction vs generalizing l k with
 |nil=>rw[u9 h];rfl
 |cons v vs ih=>
  obtain⟨h1,h2⟩:=sS h;rw[List.zipIdx_cons,List.foldl_cons];have:=ih (l:=l.set (off+k) v) (k:=k+1) h2;simpa using this
theorem kW{place:Nat->Option (Nat×Nat)}:∀ {ps:List (Nat×Value)} {l r:List Value},ly place ps l=some r->Instr.fill place ⟨l⟩ ps=some ⟨r⟩
 | [],l,r,h=>by rw[ly] at h;cases h;rfl
 | (i,v)::ps,l,r,h=>by
  rw[ly] at h;split at h
  ·rename_i off k hp;split at h
   ·cases h
   ·rename_i hs;split at h
    ·rename_i l1 hl1;have US:(iq v).length=k+1:=by rw[d9] at hs;exact aaX hs
     have RW:v.cells.size=k+1:=by rw[<- US,gG];simp
     have hbd:=(FR hl1).2 (by intro e;rw[e] at US;simp at US);rw[Instr.fill,hp];simp only;rw[if_neg (by rw[RW];simp;omega)];have:=B3 (k:=0) (off:=off) (by simpa using hl1);have e2:(Array.foldl (λ (cs:Array Value) (x:Value×Nat)=>cs.setIfInBounds (off+x.2) x.1) ⟨l⟩ v.cells.zipIdx)=⟨l1⟩:=by
      rw[<- adJ,Array.toList_zipIdx,<- gG];exact this
     have e3:=kW (r:=r) h;rw[<- e3,<- e2]
    ·cases h
  ·cases h
end lists
structure TRel(ν:Nu)(N:Nat)(T:Tr Value)(tm:Array Value):Prop where
 size:tm.size=N
 get:∀t,t<N->∃v',tm[t]?=some v'/\VRi ν (cN T t) v'
 out:∀t,N<=t->cN T t=undef
section fr
variable {ν ν':Nu} {P:Program} {G N:Nat} {T T':Tr Value} {a:Act}
theorem TRel.mono(h:TRel ν N T tm)(hl:ν.Le ν'):TRel ν' N T tm :=
 ⟨h.size,λ t ht=>let ⟨v',e,r⟩:=h.get t ht;⟨v',e,r.mono hl⟩,h.out⟩
theorem TRel.set(h:TRel ν N T tm){d:Nat}{v:Value}(hd:d<N)(hv:VRi ν v v'):TRel ν N (tV T d v) (tm.setIfInBounds d v'):=by
 refine⟨by simp[h.size],λ t ht=>?_,λ t ht=>?_⟩
 ·unfold cN tV;rw[jm]
  by_cases e:d=t
  ·subst e;refine⟨v',?_,by simpa using hv⟩;rw[lv (by rw[h.size];exact hd)]
  ·rw[if_neg e,WP e];exact h.get t ht
 ·unfold cN tV;rw[sQ (by omega)];exact h.out t ht
theorem TRel.put(h:TRel ν N T a.tmps){dst:Option Tmp}{v:Value}(hv:VRi ν v v')(hp:fy N dst v T=some T'):TRel ν N T' (a.put dst v').tmps:=by
 unfold fy at hp;split at hp
 ·cases hp;exact h
 ·rename_i d;split at hp
  ·rename_i hd;cases hp;exact h.set (Nat.lt_of_lt_of_le (Nat.lt_of_succ_le (aaH hd)) (aaI _)) hv
  ·cases hp
theorem fS(a:Act)(dst:Option Tmp)(v:Value):(a.put dst v).defers=a.defers:=by cases dst <;> rfl
structure FE(ν:Nu)(G N:Nat)(T:Tr Value)(a:Act):Prop where
 t:TRel ν N T a.tmps
 g:∀k,k<G->∃K,ν k=some (k,K)
theorem dN{a b:Nat}(h:Nat.blt a b=true):a<b:=aaH h
theorem FE.ael(h:FE ν G N T a){x:Operand}(hx:S5 G x=true):VRi ν (ael T x) (a.eval x):=by
 cases x with
 |tmp t=>
  show VRi ν (cN T t) (a.eval (.tmp t));unfold Act.eval;simp only;rcases aaV t N with ht|ht
  ·obtain⟨v',e,r⟩:=h.t.get t ht;simpa [e] using r
  ·rw[h.t.out t ht,UV,acf (by rw[h.t.size];exact ht)];exact VRi.undef
 |const v=>exact .plain_refl _ hx
 |global g=>
  obtain⟨K,e⟩:=h.g g (dN hx);exact .ptr 0 e
 |func f=>exact .func (.func f) rfl (by simp) rfl (by simp)
theorem sT{l:List Operand}(h:tW G l=true):∀x∈l,S5 G x=true:=by
 induction l with
 |nil=>intro x hx;cases hx
 |cons y l ih=>
  rw[tW] at h;split at h
  ·rename_i e;intro x hx;rcases abs.1 hx with rfl|hx
   ·exact e
   ·exact ih h x hx
  ·cases h
def OK(ν:Nu)(T:Tr Value)(a:Act)(l:List Operand):Prop:=∀x∈l,VRi ν (Go.Proofs.YtogafelgppjklaaGreatDoor.ael T x) (a.eval x)
theorem FE.ok(h:FE ν G N T a){l:List Operand}(hl:tW G l=true):OK ν T a l:=λ x hx=>h.ael (sT hl x hx)
theorem MS{s:Sem α}:∀ {x:α},yU P s=some x->∀w,s.run P w=.ok x w:=by
 induction s with
 |pure a=>intro x h w;rw[yU] at h;cases h;rfl
 |program k ih=>intro x h w;rw[yU] at h;rw[Sem.run];exact ih _ h w
 |mark m k ih=>intro x h w;rw[yU] at h;rw[Sem.run];exact ih h w
 |_=>intro x h;simp[yU] at h
theorem B4{l:List Operand}(h:wF T l=true):∀x∈l,pl (Go.Proofs.YtogafelgppjklaaGreatDoor.ael T x)=true:=by
 induction l with
 |nil=>intro x hx;cases hx
 |cons y l ih=>
  rw[wF] at h;split at h
  ·rename_i e;intro x hx;rcases abs.1 hx with rfl|hx
   ·exact e
   ·exact ih h x hx
  ·cases h
theorem pR{v:Value}(h:gF P T o=some v){l:List Operand}(hl:bW o.op=some l)(dO:OK ν T a l):∃v',VRi ν v v'/\∀w,(execOp a.eval o).run P w=.ok (.value v') w:=by
 unfold gF at h;rw[hl] at h;simp only at h;split at h
 case h_2=>cases h
 rename_i hp;split at h
 case h_2=>cases h
 rename_i u hr;split at h
 case h_2=>cases h
 rename_i hv;cases h;obtain⟨k1,k2⟩:=ue hl;have e:execOp a.eval o=execOp (Go.Proofs.YtogafelgppjklaaGreatDoor.ael T) o:=execOp_congr o k2 λ x hx=>(dO x (k1 x hx)).plain_eq (B4 hp x (k1 x hx));exact⟨v,.plain_refl _ hv,λ w=>by rw[e];exact MS hr w⟩
theorem JM{op:BinOp}{ty:TypeId}{x y:Operand}{k:IntKind}{m n:Int}{r:Bool}(ho:o.op=.binOp op t x y ty)(hx:ρ x=.int k m)(hy:ρ y=.int k n)(h:Ju op m n=some r):(execOp ρ o).run P w=.ok (.value (.bool r)) w:=by
 unfold Ju at h;split at h <;> first|(cases h;done)|skip
 all_goals
  cases h;simp[execOp,ho,hx,hy,eqGuard,Go.binOp,Op.intCmp,pure,bind,Sem.bind,Sem.run]
theorem zl(h:yV P t=true)(w:World):(isAgg t).run P w=.ok false w:=by
 unfold yV at h;split at h
 ·cases h
 ·cases h
 ·rename_i d h1 h2 hu;unfold isAgg;rw[aa8,aG hu];simp only[aa7];cases d <;> first|rfl|exact(h1 _ hu).elim|exact(h2 _ _ hu).elim
 ·cases h
theorem zm(h:BU P t=some k):(∀w,(isAgg t).run P w=.ok true w)/\(∀w,(sizeOf t).run P w=.ok k w)/\fh P t=some k:=by
 unfold BU at h;split at h
 case h_3=>cases h
 all_goals
  rename_i hu;rw[ab1] at h;obtain⟨i,hi,rfl⟩:=h;refine⟨λ w=>?_,λ w=>?_,by unfold fh;rw[hi];rfl⟩
  ·unfold isAgg;rw[aa8,aG hu];rfl
  ·unfold sizeOf;rw[aa8,cO hi];rfl
theorem eh(h:fh P t=some k)(w:World):(sizeOf t).run P w=.ok k w:=by
 unfold fh at h;rw[ab1] at h;obtain⟨i,hi,rfl⟩:=h;unfold sizeOf;rw[aa8,cO hi];rfl
theorem vc{cs:Array Value}{v:Value}(h:o8 P t cs.toList off=some v)(w:World):(part t cs off).run P w=.ok v w:=by
 unfold o8 at h;split at h
 ·rename_i h1;rw[kV] at h;unfold part;rw[aa8,zl h1];have h2:cs[off]?=some v:=by simpa using h
  simp[h2]
 ·split at h
  ·rename_i k hk;cases h;obtain⟨h1,h2,h3⟩:=zm hk;unfold part;rw[aa8,h1];simp only[aa7,if_true,aa8,h2];rw[zj,zk];have:cs.extract off (off+k)=⟨(cs.toList.drop off).take k⟩:=by
    apply Array.ext';simp
   rw[this];rfl
  ·cases h
theorem vd{l:List Value}{v:Value}(hl:LR ν l l')(h:o8 P t l off=some v):∃v',o8 P t l' off=some v'/\VRi ν v v':=by
 unfold o8 at h ⊢;split at h
 ·rename_i h1;rw[kV] at h;obtain⟨v',e,r⟩:=hl.get h;exact⟨v',by simpa [kV] using e,r⟩
 ·rename_i h1;split at h
  ·rename_i k hk;cases h;refine⟨.agg ⟨uT (uS l' off) k⟩,rfl,?_⟩;simp only[zk,zj];exact .agg_of ((hl.drop _).take _)
  ·cases h
theorem sU{ps:List (Nat×Operand)}(h:OK ν T a (ps.map (·.2))):PR ν (wG T ps) (ps.map λ p=>(p.1,a.eval p.2)):=by
 induction ps with
 |nil=>exact .nil
 |cons p ps ih=>exact .cons _ (h _ (by simp)) (ih λ x hx=>h x (aaE _ hx))
theorem md{l:List Operand}(h:OK ν T a l):LR ν (nV T l) (l.map a.eval):=by
 induction l with
 |nil=>exact .nil
 |cons x l ih=>exact .cons (h _ aaD) (ih λ y hy=>h y (aaE _ hy))
theorem kr{z:List Value}(h:lz P t=some z):∃zv,(∀w,(zeroValue t).run P w=.ok zv w)/\zv.cells=⟨z⟩/\LR ν z z/\(∃i,P.info? t=some i/\i.zero=some zv):=by
 unfold lz at h;split at h
 case h_2=>cases h
 rename_i i hi;split at h
 case h_2=>cases h
 rename_i zv hz;split at h
 case h_2=>cases h
 rename_i hp;cases h;refine⟨zv,λ w=>?_,by rw[gG],kU (.plain_refl _ hp),i,hi,hz⟩;unfold zeroValue;rw[aa8,cO hi];simp only[aa7,hz];rfl
theorem nD:∀ {fs:List Field} {l:List (Nat×Nat)},kh P fs=some l->∀w,((fs.mapM λ f=>(do pure (f.offset,<- sizeOf f.type):Sem (Nat×Nat)))).run P w=.ok l w
 | [],l,h,w=>by rw[kh] at h;cases h;rfl
 |f::fs,l,h,w=>by
  rw[kh] at h;split at h
  ·rename_i k l0 h1 h2;cases h
   haveI:=jn
   rw[adQ,aa8,aa8,eh h1];have:=nD h2 w;simp only[ci,aa7];rw[aa8,this];rfl
  ·cases h
theorem MT(l:List (Nat×Nat))(i:Nat):Jw l i=l[i]?:=by
 induction l generalizing i with
 |nil=>rfl
 |cons v l ih=>cases i with
  |zero=>rfl
  |succ i=>simpa [Jw] using ih i
theorem FS{v:Value}(h:BV P t ps=some v)(hr:PR ν ps Zc):∃v',VRi ν v v'/\∀w,(Instr.build t ⟨Zc⟩).run P w=.ok v' w:=by
 unfold BV at h;split at h
 case h_2=>cases h
 rename_i z hz;obtain⟨zv,h1,h2,h3,-⟩:=kr (ν:=ν) hz;split at h
 ·rename_i fs hu;split at h
  case h_2=>cases h
  rename_i pls hs;split at h
  case h_2=>cases h
  rename_i l hf;cases h;obtain⟨l',e1,e2⟩:=pQ hr h3 hf;refine⟨.agg ⟨l'⟩,.agg_of e2,λ w=>?_⟩;have h4:=nD hs w
  haveI:=jn
  unfold Instr.build;rw[aa8,h1];simp only[aa7];rw[aa8,aG hu];simp only[aa7];rw[aa8,Array.mapM_eq_mapM_toList];have h5:((List.toArray <$> (fs.toList.mapM λ f=>(do pure (f.offset,<- sizeOf f.type):Sem (Nat×Nat)))):Sem (Array (Nat×Nat))).run P w=.ok ⟨pls⟩ w:=by
   rw[<- bind_pure_comp,aa8,h4];rfl
  rw[h5];simp only[aa7];have h6:=kW e1;have h7:(λ i=>(⟨pls⟩:Array (Nat×Nat))[i]?)=Jw pls:=by funext i;rw[MT];simp
  rw[h2,h7,h6];rfl
 ·rename_i n el hu;split at h
  case h_2=>cases h
  rename_i k hk;split at h
  case h_2=>cases h
  rename_i l hf;cases h;obtain⟨l',e1,e2⟩:=pQ hr h3 hf;refine⟨.agg ⟨l'⟩,.agg_of e2,λ w=>?_⟩;unfold Instr.build;rw[aa8,h1];simp only[aa7];rw[aa8,aG hu];simp only[aa7];rw[aa8,eh hk];simp only[aa7];have h6:=kW e1;rw[h2,h6];rfl
 ·cases h
theorem B5{x:Operand}{ad:Addr}(ho:o.op=.fieldAddr t x j)(hx:ρ x=.pointer (some ad))(hf:yW P t j=some (k,ft)):(execOp ρ o).run P w=.ok (.value (.pointer (some (ad.add k)))) w:=by
 unfold yW at hf;split at hf
 case h_2=>cases hf
 rename_i fs hu;split at hf
 case h_2=>cases hf
 rename_i f hj;split at hf
 case h_2=>cases hf
 rename_i inf hi;split at hf
 ·cases hf
 rename_i m hm;cases hf;have h1:=λ W=>aG hu W;have h2:=λ W=>cO hi W;simp[execOp,ho,Instr.fieldAt,Instr.sureAddr,hx,aa8,h1,hj,fieldPlace,sizeOf,h2,hm]
theorem B6{x:Operand}{cs:Array Value}{v:Value}(ho:o.op=.field t x j)(hx:ρ x=.agg cs)(hf:yW P t j=some (k,ft))(hp:o8 P ft cs.toList k=some v):(execOp ρ o).run P w=.ok (.value v) w:=by
 unfold yW at hf;split at hf
 case h_2=>cases hf
 rename_i fs hu;split at hf
 case h_2=>cases hf
 rename_i f hj;split at hf
 case h_2=>cases hf
 rename_i inf hi;split at hf
 ·cases hf
 rename_i m hm;cases hf;have h1:=λ W=>aG hu W;have h2:=vc hp;simp[execOp,ho,Instr.field,asAgg,hx,aa8,h1,hj,h2]
theorem pd(h o k:Nat):BW ⟨h,o,none⟩ k=⟨h,o+k,none⟩:=by cases k <;> rfl
theorem nY(h o k:Nat):(⟨h,o,none⟩:Addr).add k=⟨h,o+k,none⟩:=by
 unfold Addr.add;split
 ·rename_i e;subst e;rfl
 ·rfl
theorem nZ{v:Value}{n:Nat}(h:LU v=some n)(hr:VRi ν v v'):∃k,v'=.int k (n:Int):=by
 unfold LU at h;split at h
 ·rename_i k m;cases h;cases hr;exact⟨k,rfl⟩
 ·cases h
end fr
def aaA:=@VRi.undef
end
section
variable {K b j n off sz ww:Nat} {UH vs:List Value} {ad ad':Addr} {el t ty:TypeId} {es:List (Value×Value×Nat)} {fz:Nat×Nat} {k v':Value} {o:Oper} {w:World} {ρ:Operand->Value}
section fr
variable {ν ν':Nu} {P:Program} {G N:Nat} {T T':Tr Value} {a:Act}
theorem JN{u v u':Value}{r:Bool}(h:Jv u v=some r)(ht:MN P t u=true)(hu:VRi ν u u')(hv:VRi ν v v')(w:World):(Op.equal t u' v').run P w=.ok r w:=by
 show (Op.equalIn 10000 t u' v').run P w=_;rw[show (10000:Nat)=9999+1 from rfl,Op.equalIn.eq_def];simp only;unfold Jv at h;split at h <;> first|(cases h;done)|skip
 all_goals
  cases h;unfold MN at ht;split at ht <;> first|(cases ht;done)|skip
  rename_i hd;rw[aa8,aG hd];simp only[aa7];cases hu <;> cases hv <;> first|rfl|(rename_i e;cases e;done)|(rename_i e1 e2;cases e1;done)|(rename_i e1 e2;cases e2;done)
theorem wL{x i:Operand}{c:Nat}{k:IntKind}(ho:o.op=.indexAddr t x i)(hx:ρ x=.slice (some ⟨b,off,none⟩) n c)(hi:ρ i=.int k (j:Int))(ht:P.underlying t=some (.slice el))(hj:j<n)(hs:fh P el=some sz) :
  (execOp ρ o).run P w=.ok (.value (.pointer (some ⟨b,off+j*sz,none⟩))) w:=by
 have h1:=λ W=>aG ht W;have h2:=λ W=>eh hs W;have h3:(0:Int)<=(j:Int)/\(j:Int)<(n:Int):=⟨by omega,by omega⟩;simp[execOp,ho,Instr.indexAt,hx,hi,asIntOf,aa8,h1,h2,hj,nY]
theorem B7{x i:Operand}{k:IntKind}(ho:o.op=.indexAddr t x i)(hx:ρ x=.pointer (some ⟨b,off,none⟩))(hi:ρ i=.int k (j:Int))(ht:P.underlying t=some (.array n el))(hj:j<n)(hs:fh P el=some sz) :
  (execOp ρ o).run P w=.ok (.value (.pointer (some ⟨b,off+j*sz,none⟩))) w:=by
 have h1:=λ W=>aG ht W;have h2:=λ W=>eh hs W;simp[execOp,ho,Instr.indexAt,Instr.sureAddr,hx,hi,asIntOf,aa8,h1,h2,hj,nY]
theorem B8{x i:Operand}{cs:Array Value}{k:IntKind}{v:Value}(ho:o.op=.index t x i)(hx:ρ x=.agg cs)(hi:ρ i=.int k (j:Int))(ht:P.underlying t=some (.array n el))(hj:j<n)(hs:fh P el=some sz)(hp:o8 P el cs.toList (j*sz)=some v) :
  (execOp ρ o).run P w=.ok (.value v) w:=by
 have h1:=λ W=>aG ht W;have h2:=λ W=>eh hs W;have h3:=vc hp;simp[execOp,ho,Instr.index,hx,hi,asIntOf,aa8,h1,h2,h3,hj]
theorem JO{x:Operand}(ho:o.op=.call { callee:=.builtin .len,args:=#[x],argTypes:=#[t] })(hl:BX P t (ρ x)=some n):(execOp ρ o).run P w=.ok (.value (.int .i64 (n:Int))) w:=by
 unfold BX at hl;split at hl
 case h_3=>cases hl
 all_goals
  rename_i hu hx;cases hl;have h1:=λ W=>aG hu W;simp[execOp,ho,resolve,invoke,builtin,Builtin.len_,hx,aa8,h1,goInt]
theorem JP{v:Value}(hr:VRi ν v v')(h:BX P t v=some n):BX P t v'=some n:=by
 cases hr with
 |atom v _=>exact h
 |slice o n h1 c=>
  unfold BX at h ⊢;cases hu:P.underlying t with
  |none=>simp[hu] at h
  |some d=>rw[hu] at h;cases d <;> simp at h ⊢;exact h
 |_=>
  unfold BX at h;cases hu:P.underlying t with
  |none=>simp[hu] at h
  |some d=>rw[hu] at h;cases d <;> simp at h
theorem zn{op:BinOp}{x y:Operand}{u v:Value}{r:Bool}(ho:o.op=.binOp op t x y ty)(hx:VRi ν u (ρ x))(hy:VRi ν v (ρ y))(hr:Jv u v=some r)(ht:MN P t u=true) :
  (op=.eql->(execOp ρ o).run P w=.ok (.value (.bool r)) w)/\(op=.neq->(execOp ρ o).run P w=.ok (.value (.bool (!r))) w):=by
 have q:=JN hr ht hx hy w;generalize hu:ρ x=u' at *;generalize hv:ρ y=v' at *;unfold Jv at hr;split at hr <;> first|(cases hr;done)|skip
 all_goals
  cases hx <;> cases hy <;> refine⟨λ e=>?_,λ e=>?_⟩ <;> subst e <;> simp[execOp,ho,hu,hv,eqGuard,Go.binOp,aa8,q,ci,Result.andThen]
theorem zo{v:Value}(h:gY P o T=some v){l:List Operand}(hl:bW o.op=some l)(dO:OK ν T a l):∃v',VRi ν v v'/\∀w,(execOp a.eval o).run P w=.ok (.value v') w:=by
 have hpl:gF P T o=some v->∃v',VRi ν v v'/\∀w,(execOp a.eval o).run P w=.ok (.value v') w:=λ h=>pR h hl dO;unfold gY at h;split at h
 ·rename_i x ho;rw[ho] at hl;simp only[bW,de] at hl;subst hl;cases h;exact⟨_,dO x (by simp),λ w=>by simp[execOp,ho,pure,Sem.run]⟩
 ·rename_i x ho;rw[ho] at hl;simp only[bW,de] at hl;subst hl;cases h;exact⟨_,dO x (by simp),λ w=>by simp[execOp,ho,pure,Sem.run]⟩
 ·rename_i c x y ho;rw[ho] at hl;simp only[bW,de] at hl;subst hl;have hc:=dO c (by simp);split at h
  ·rename_i e;cases h;rw[e] at hc;have e':=hc.plain_eq rfl;exact⟨_,dO x (by simp),λ w=>by simp[execOp,ho,e',asBool,aa8,pure,Sem.run,Result.andThen]⟩
  ·rename_i e;cases h;rw[e] at hc;have e':=hc.plain_eq rfl;exact⟨_,dO y (by simp),λ w=>by simp[execOp,ho,e',asBool,aa8,pure,Sem.run,Result.andThen]⟩
  ·cases h
 ·rename_i t parts ho;rw[ho] at hl;simp only[bW,de] at hl;subst hl;obtain⟨v',r,e⟩:=FS h (sU dO);refine⟨v',r,λ w=>?_⟩;have:=e w;have e2:(parts.map λ (p:Nat×Operand)=>(p.1,a.eval p.2))=⟨parts.toList.map λ p=>(p.1,a.eval p.2)⟩:=by apply Array.ext';simp
  simp only[execOp,ho,aa8];rw[e2,this];rfl
 ·rename_i x ho;rw[ho] at hl;simp only[bW,de] at hl;subst hl;have hx:=dO x (by simp);split at h
  ·rename_i ad e;cases h;rw[e] at hx;refine⟨_,hx,λ w=>?_⟩;generalize hu:a.eval x=u at hx;cases hx with
   |atom _ h=>simp[cw] at h
   |ptr o h=>simp[execOp,ho,hu,pure,Sem.run,bind,Sem.bind]
  ·rename_i f first captured e
   cases h;rw[e] at hx;refine⟨_,hx,λ w=>?_⟩;generalize hu:a.eval x=u at hx;cases hx with
   |atom _ h=>simp[cw] at h
   |func hf _ _ _ _=>cases hf;simp[execOp,ho,hu,pure,Sem.run,bind,Sem.bind]
  ·rename_i t v e;cases h;rw[e] at hx;refine⟨_,hx,λ w=>?_⟩;generalize hu:a.eval x=u at hx;cases hx with
   |atom _ h=>simp[cw] at h
   |iface t hf=>simp[execOp,ho,hu,pure,Sem.run,bind,Sem.bind]
  ·cases h
 ·rename_i op t x y ty ho;have hx:=dO x (by rw[ho] at hl;simp only[bW,de] at hl;subst hl;simp);have hy:=dO y (by rw[ho] at hl;simp only[bW,de] at hl;subst hl;simp);split at h
  ·rename_i k m k' n ex ey;rw[ex] at hx;rw[ey] at hy;have ex':=hx.plain_eq rfl;have ey':=hy.plain_eq rfl;split at h
   ·rename_i r hr;split at h
    ·rename_i hk;cases h;have XI:k=k':=aa9 hk;subst XI;exact⟨_,.atom _ rfl,λ w=>JM ho ex' ey' hr⟩
    ·cases h
   ·exact hpl h
  ·split at h
   ·rename_i r hr;split at h
    ·rename_i ht;cases h;exact⟨_,.atom _ rfl,λ w=>(zn ho hx hy hr ht).1 rfl⟩
    ·rename_i ht;cases h;exact⟨_,.atom _ rfl,λ w=>(zn ho hx hy hr ht).2 rfl⟩
    ·cases h
   ·exact hpl h
 ·rename_i t x ho;rw[ho] at hl;simp only[bW,de] at hl;subst hl;have hx:=dO x (by simp);split at h
  ·cases h
  ·rename_i d hd hu;cases h;refine⟨_,.iface t hx,λ w=>?_⟩;simp only[execOp,ho,Instr.makeInterface,aa8,aG hu,aa7];cases d <;> first|rfl|exact(hd _ hu).elim
  ·cases h
 ·rename_i fn first captured ho
  rw[ho] at hl;simp only[bW,de] at hl;subst hl;split at h
  ·rename_i f;cases h;have h1:=md (ν:=ν) (T:=T) (a:=a) (l:=first.toList) (λ x hx=>dO x (aaC _ hx));have h2:=md (ν:=ν) (T:=T) (a:=a) (l:=captured.toList) (λ x hx=>dO x (aaB _ hx));have e1:first.map a.eval=⟨first.toList.map a.eval⟩:=by apply Array.ext';simp
   have e2:captured.map a.eval=⟨captured.toList.map a.eval⟩:=by apply Array.ext';simp
   refine⟨.func (.func f) (first.map a.eval) (captured.map a.eval),by rw[e1,e2];exact .func_of (.func f) h1 h2,λ w=>?_⟩;simp[execOp,ho,Instr.makeFunc,pure,Sem.run,bind,Sem.bind]
  ·cases h
 ·rename_i t x j ho;rw[ho] at hl;simp only[bW,de] at hl;subst hl;have hx:=dO x (by simp);split at h
  ·rename_i ad k ft e hf;cases h;rw[e] at hx;generalize hu:a.eval x=u at hx;cases hx with
   |atom _ h=>simp[cw] at h
   |ptr o h=>
    refine⟨_,?_,λ w=>B5 ho hu hf⟩;rw[pd,nY];exact .ptr _ h
  ·cases h
 ·rename_i t x j ho;rw[ho] at hl;simp only[bW,de] at hl;subst hl;have hx:=dO x (by simp);split at h
  ·rename_i cs k ft e hf;rw[e] at hx;generalize hu:a.eval x=u at hx;cases hx with
   |atom _ h=>simp[cw] at h
   |agg he hg=>
    obtain⟨v',e1,r⟩:=vd (LR.of_arr he hg) h;exact⟨v',r,λ w=>B6 ho hu hf e1⟩
  ·cases h
 ·rename_i t x i ho;rw[ho] at hl;simp only[bW,de] at hl;subst hl;have hx:=dO x (by simp);have hi:=dO i (by simp);split at h
  ·rename_i el ad n c j ht e ei;split at h
   ·rename_i k hj hs;cases h;rw[e] at hx;obtain⟨kk,ej⟩:=nZ ei hi;generalize hu:a.eval x=u at hx;cases hx with
    |atom _ h=>simp[cw] at h
    |slice o n h hc=>
     refine⟨_,?_,λ w=>wL ho hu ej ht (dN hj) hs⟩;rw[pd];exact .ptr _ h
   ·cases h
  ·rename_i n el ad j ht e ei;split at h
   ·rename_i k hj hs;cases h;rw[e] at hx;obtain⟨kk,ej⟩:=nZ ei hi;generalize hu:a.eval x=u at hx;cases hx with
    |atom _ h=>simp[cw] at h
    |ptr o h=>
     refine⟨_,?_,λ w=>B7 ho hu ej ht (dN hj) hs⟩;rw[pd];exact .ptr _ h
   ·cases h
  ·cases h
 ·rename_i t x i ho;have hx:=dO x (by rw[ho] at hl;simp only[bW,de] at hl;subst hl;simp);have hi:=dO i (by rw[ho] at hl;simp only[bW,de] at hl;subst hl;simp);split at h
  ·rename_i n el cs j ht e ei;split at h
   ·rename_i k hj hs;rw[e] at hx;obtain⟨kk,ej⟩:=nZ ei hi;generalize hu:a.eval x=u at hx;cases hx with
    |atom _ h=>simp[cw] at h
    |agg he hg=>
     obtain⟨v',e1,r⟩:=vd (LR.of_arr he hg) h;exact⟨v',r,λ w=>B8 ho hu ej ht (dN hj) hs e1⟩
   ·cases h
  ·exact hpl h
 ·rename_i x i ho;rw[ho] at hl;simp only[bW,de] at hl;subst hl;have hx:=dO x (by simp);split at h
  ·rename_i cs e;rw[e] at hx;generalize hu:a.eval x=u at hx;cases hx with
   |atom _ h=>simp[cw] at h
   | @tuple _ c' he hg=>
    rw[kV] at h;obtain⟨v',e1,r⟩:=(LR.of_arr he hg).get h;refine⟨v',r,λ w=>?_⟩;have e2:c'[i]?=some v':=by simpa using e1
    simp[execOp,ho,hu,Instr.extract,e2,aa8,ci,Result.andThen]
  ·cases h
 ·rename_i c ho;split at h
  ·rename_i x t hq;unfold PL at hq;split at hq
   case h_2=>cases hq
   rename_i y u;have hyx:y=x/\u=t:=by
    split at hq <;> first|(cases hq;exact⟨rfl,rfl⟩)|cases hq
   obtain⟨rfl,rfl⟩:=hyx;have hx:=dO y (by rw[ho] at hl;simp only[bW,de] at hl;subst hl;simp);split at h
   ·rename_i n hn;cases h;exact⟨_,.atom _ rfl,λ w=>JO ho (JP hx hn)⟩
   ·cases h
  ·exact hpl h
 ·exact hpl h
end fr
inductive ER(ν:Nu):List (Value×Value×Nat)->List MapEntry->Prop
 |nil:ER ν [] []
 |cons {v v':Value} {l:List (Value×Value×Nat)} {l':List MapEntry} (k:Value) (b:Nat):VRi ν v v'->ER ν l l'->ER ν ((k,v,b)::l) (⟨k,v',b⟩::l')
structure CR(ν:Nu)(K n:Nat)(t:Tr Value)(ty:TypeId)(w:Nat)(c:Array Value)(ty':TypeId)(fz:Nat×Nat):Prop where
 ty:ty'=ty
 le:n<=c.size
 fz:fz=(0,0)
 get:∀i,i<n->∃v',c[i]?=some v'/\VRi ν (cN t i) v'
 gr:w≠0->c.size=K*w
def OR(ν:Nu)(K:Nat):AB->Obj->Prop
 | .cells n t ty w _,.cells c ty' fz=>CR ν K n t ty w c ty' fz
 | .map es clock,.map VV adF=>adF=clock/\ER ν es VV.toList
 | .loop st pend T N ps as0 bo d,.loop r=>r.state=st/\r.pending=pend/\TRel ν N T r.tmps/\r.params=ps/\r.assign=as0/\r.body=bo/\∃K',ν d=some (r.defers,K')
 | .dfr shut,.deferred c=>c=(match shut with|true=>none|false=>some [])
 |_,_=>False
def JQ:AB->Bool
 | .cells _ _ _ _ ro=>!ro
 |_=>true
structure HR(ν:Nu)(H:AH)(F:HL)(w:World):Prop where
 blk:∀h b,bP H h=some b->∃r K o,ν h=some (r,K)/\w.heap[r]?=some o/\OR ν K b o
 inj:∀h₁ h₂ b₁ b₂ r K₁ K₂,bP H h₁=some b₁->bP H h₂=some b₂->ν h₁=some (r,K₁)->ν h₂=some (r,K₂)->h₁=h₂
 frm:∀x∈F,w.heap[x.1]?=some x.2.den
 apt:∀h b r K,bP H h=some b->ν h=some (r,K)->∀x∈F,x.1≠r
section hp
variable {ν ν':Nu} {P:Program} {G N:Nat} {T T':Tr Value} {a:Act} {H:AH} {F:HL} {w:World}
theorem ER.mono{l:List (Value×Value×Nat)}{l':List MapEntry}(h:ER ν l l')(hl:ν.Le ν'):ER ν' l l':=by
 induction h with
 |nil=>exact .nil
 |cons k b hv _ ih=>exact .cons k b (hv.mono hl) ih
theorem OR.mono{b:AB}{o:Obj}(h:OR ν K b o)(hl:ν.Le ν'):OR ν' K b o:=by
 unfold OR at h ⊢;split at h
 ·exact⟨h.ty,h.le,h.fz,λ i hi=>let ⟨v',e,r⟩:=h.get i hi;⟨v',e,r.mono hl⟩,h.gr⟩
 ·exact⟨h.1,h.2.mono hl⟩
 ·obtain⟨h1,h2,h3,h4,h5,h6,K',h7⟩:=h;exact⟨h1,h2,h3.mono hl,h4,h5,h6,K',hl _ _ h7⟩
 ·exact h
 ·exact h.elim
theorem HR.lt(h:HR ν H F w){k r:Nat}{b:AB}(hk:bP H k=some b)(hr:ν k=some (r,K)):r<w.heap.size:=by
 obtain⟨r',K',o,h1,h2,-⟩:=h.blk k b hk;rw[hr] at h1;cases h1;exact bX h2
theorem HR.cells(h:HR ν H F w){k:Nat}{t:Tr Value}{ro:Bool}{r:Nat}(hk:bP H k=some (.cells n t ty ww ro))(hr:ν k=some (r,K)):∃c ty' fz,w.heap[r]?=some (.cells c ty' fz)/\CR ν K n t ty ww c ty' fz:=by
 obtain⟨r',K',o,h1,h2,h3⟩:=h.blk _ _ hk;rw[hr] at h1;cases h1;unfold OR at h3;split at h3
 ·rename_i e1;cases e1;exact⟨_,_,_,h2,h3⟩
 ·rename_i e1;cases e1
 ·rename_i e1;cases e1
 ·rename_i e1;cases e1
 ·exact h3.elim
theorem HR.map(h:HR ν H F w){k cl:Nat}{r:Nat}(hk:bP H k=some (.map es cl))(hr:ν k=some (r,K)):∃VV,w.heap[r]?=some (.map VV cl)/\ER ν es VV.toList:=by
 obtain⟨r',K',o,h1,h2,h3⟩:=h.blk _ _ hk;rw[hr] at h1;cases h1;unfold OR at h3;split at h3
 ·rename_i e1;cases e1
 ·rename_i e1;cases e1;obtain⟨e,h4⟩:=h3;subst e;exact⟨_,h2,h4⟩
 ·rename_i e1;cases e1
 ·rename_i e1;cases e1
 ·exact h3.elim
theorem mM{c:Array Value}{i:Nat}(h:w.heap[b]?=some (.cells c ty fz)):w.cell? ⟨b,i,none⟩=c[i]?:=by
 simp[World.cell?,h]
theorem kw{c:Array Value}{n:Nat}{t:Tr Value}(hle:n<=c.size)(hg:∀i,i<n->∃v',c[i]?=some v'/\VRi ν (cN t i) v'):∀ (k i:Nat),i+k<=n->LR ν (gZ t i k) ((c.toList.drop i).take k)
 |0,i,_=>by simp only[gZ,List.take_zero];exact .nil
 |k+1,i,h=>by
  obtain⟨v',e,r⟩:=hg i (by omega);have g_:i<c.toList.length:=by simp;omega
  rw[eB g_,List.take_succ_cons];have:c.toList[i]=v':=by
   have:=(eb.1 e).2;simpa using this
  rw[this];exact .cons r (kw hle hg k (i+1) (by omega))
theorem nE{b off:Nat}:∀ (vs:List Value) (i:Nat) (acc:Array Value),(∀j (hj:j<vs.length),w.cell? ⟨b,off+(i+j),none⟩=some vs[j])->(loadCellsFrom ⟨b,off,none⟩ i vs.length acc).run P w=.ok (acc++⟨vs⟩) w
 | [],i,acc,_=>by simp[loadCellsFrom,ci]
 |v::vs,i,acc,h=>by
  rw[aaN,loadCellsFrom,aa8];have h0:=h 0 (by simp);simp only[abZ,List.getElem_cons_zero] at h0;have h1:(load ((⟨b,off,none⟩:Addr).add i)).run P w=.ok v w:=by
   rw[nY];unfold load;rw[Sem.run,h0];rfl
  rw[h1];simp only[aa7];rw[nE vs (i+1) _ (λ j hj=>by
   have:=h (j+1) (by simp;omega);simp only[ac2] at this;rw[<- this];congr 2;omega)]
  simp
theorem zp{c:Array Value}{tr:Tr Value}{v:Value}(hw:w.heap[b]?=some (.cells c ty fz))(hle:n<=c.size)(hg:∀i,i<n->∃v',c[i]?=some v'/\VRi ν (cN tr i) v')
  (h:(match yV P t with
   |true=>match Nat.blt off n with
    |true=>some (cN tr off)
    |false=>none
   |false=>match BU P t with
    |some k=>match Nat.ble (off+k) n with
     |true=>some (.agg ⟨gZ tr off k⟩)
     |false=>none
    |none=>none)=some v):∃v',VRi ν v v'/\(loadVar t ⟨b,off,none⟩).run P w=.ok v' w:=by
 split at h
 ·rename_i h1;split at h
  ·rename_i g_;cases h;obtain⟨v',e,r⟩:=hg off (dN g_);refine⟨v',r,?_⟩;unfold loadVar;rw[aa8,zl h1];simp only[aa7,ad4,if_false];unfold load;rw[Sem.run,mM hw,e];rfl
  ·cases h
 ·split at h
  ·rename_i k hk;split at h
   ·rename_i g_;cases h;obtain⟨h1,h2,h3⟩:=zm hk;have ZD:=aaH g_;have hl:=kw hle hg k off ZD;refine⟨.agg ⟨(c.toList.drop off).take k⟩,.agg_of hl,?_⟩;have hlen:((c.toList.drop off).take k).length=k:=by simp;omega
    unfold loadVar;rw[aa8,h1];simp only[aa7,if_true];rw[aa8,h2];simp only[aa7];rw[aa8];unfold loadCells;have:=nE (P:=P) (w:=w) (b:=b) (off:=off) ((c.toList.drop off).take k) 0 #[] (λ j hj=>by
     rw[mM hw];have YK:off+(0+j)<c.size:=by rw[hlen] at hj;omega
     rw[abn YK];simp)
    rw[hlen] at this;rw[this];simp[Result.andThen,ci]
   ·cases h
  ·cases h
theorem zq{v:Value}(hH:HR ν H F w)(hp:VRi ν (.pointer (some ad)) (.pointer (some ad')))(h:uU P t H ad=some v):∃v',VRi ν v v'/\(loadVar t ad').run P w=.ok v' w:=by
 cases hp with
 |atom _ h=>simp[cw] at h
 | @ptr hd b K o hν=>
  unfold uU at h;split at h
  case h_2=>cases h
  rename_i n tr ty ww ro hs hb;simp only at hb h;obtain⟨c,ty',fz,hw,hc⟩:=hH.cells hb hν;exact zp hw hc.le hc.get h
def wM:TypeDesc->Value->Bool
 | .int _,.int _ _=>true
 | .string,.string _=>true
 | .bool,.bool _=>true
 |_,_=>false
theorem B9(h:Jy P t k=true):∃d,P.underlying t=some d/\wM d k=true:=by
 unfold Jy at h;split at h <;> first|(cases h;done)|(rename_i e;exact⟨_,e,rfl⟩)
theorem sV{d:TypeDesc}(h:wM d k=true):pl k=true/\cw k=true:=by
 unfold wM at h;split at h <;> first|(cases h;done)|exact⟨rfl,rfl⟩
theorem gH{d:TypeDesc}{k':Value}{r:Bool}(h:ma k k'=some r)(hk:wM d k=true):Instr.sameNow d k k'=some r:=by
 unfold wM at hk;split at hk <;> first|(cases hk;done)|skip
 ·rename_i k1 k2 n1;cases k' with
  |int k3 n2=>
   unfold ma at h
   by_cases e:k2=k3
   ·simp only[e,decide_true] at h;cases h;simp[Instr.sameNow,e]
   ·simp[e] at h
  |_=>simp[ma] at h
 ·cases k' with
  |string s2=>unfold ma at h;cases h;rfl
  |_=>simp[ma] at h
 ·cases k' with
  |bool s2=>unfold ma at h;cases h;rfl
  |_=>simp[ma] at h
theorem gi(h:Jy P t k=true)(e:Bool)(w:World):(Instr.checkKey e 10000 t k).run P w=.ok () w:=by
 obtain⟨d,hd,hk⟩:=B9 h;rw[show (10000:Nat)=9999+1 from rfl,Instr.checkKey.eq_def];simp only;rw[aa8,aG hd];unfold wM at hk;split at hk <;> first|(cases hk;done)|rfl
theorem ve{d:TypeDesc}(hk:wM d k=true){VV:List MapEntry}(h:ER ν es VV):∀ {r:Option Value} (i:Nat),yX k es=some r->
  (r=none/\Instr.findNow d k VV i=some none)\/(∃v v' j,r=some v/\VRi ν v v'/\Instr.findNow d k VV i=some (some (j,v'))):=by
 induction h with
 |nil=>intro r i h;rw[yX] at h;cases h;exact .inl ⟨rfl,rfl⟩
 |cons k' b hv _ ih=>
  intro r i h;rw[yX] at h;split at h
  ·rename_i e;cases h;exact .inr ⟨_,_,i,rfl,hv,by rw[Instr.findNow];simp only[gH e hk]⟩
  ·rename_i e;rcases ih (i+1) h with ⟨h1,h2⟩|⟨v,v',j,h1,h2,h3⟩
   ·exact .inl ⟨h1,by rw[Instr.findNow];simp only[gH e hk];exact h2⟩
   ·exact .inr ⟨v,v',j,h1,h2,by rw[Instr.findNow];simp only[gH e hk];exact h3⟩
  ·cases h
theorem vf{z:Value}(h:Df P t=some z)(w:World):(zeroValue t).run P w=.ok z w/\pl z=true:=by
 unfold Df at h;split at h
 case h_2=>cases h
 rename_i i hi;split at h
 case h_2=>cases h
 rename_i zv hz;split at h
 case h_2=>cases h
 rename_i hp;cases h;refine⟨?_,hp⟩;unfold zeroValue;rw[aa8,cO hi];simp only[aa7,hz];rfl
theorem pS{ok b:Bool}{v:Value}(h:VRi ν v v'):VRi ν (Dg ok v b) (if ok=true then .tuple #[v',.bool b] else v'):=by
 cases ok with
 |true=>exact .tuple_of (.cons h (.cons (.atom _ rfl) .nil))
 |false=>exact h
theorem JR{m m':Value}{ok:Bool}{v:Value}(hH:HR ν H F w)(hm:VRi ν m m')(h:Jz P t H m k ok=some v):pl k=true/\∃v',VRi ν v v'/\(Instr.lookup t m' k ok).run P w=.ok v' w:=by
 unfold Jz at h;split at h
 case h_2=>cases h
 rename_i kt et hu;split at h
 case h_2=>cases h
 rename_i hk;obtain⟨d,hd,hkd⟩:=B9 hk;have hf:∀es,(∀r,Instr.findNow d k es 0=some r->(Instr.findKey kt k es).run P w=.ok r w):=λ es r hr=>by
  unfold Instr.findKey;rw[aa8,aG hd];simp only[aa7,hr];rfl
 refine⟨(sV hkd).1,?_⟩;split at h
 ·split at h
  ·rename_i z hz;cases h;cases hm;obtain⟨h1,h2⟩:=vf hz w;refine⟨_,pS (.plain_refl _ h2),?_⟩;unfold Instr.lookup;rw[aa8,aG hu];simp only[aa7,aa8,ci,gi hk,hf [] none rfl,h1]
   try (cases ok <;> rfl)
  ·cases h
 ·rename_i r;split at h
  ·rename_i es cl hb;cases hm with
   |atom _ h=>simp[cw] at h
   | @map _ b K hν=>
   obtain⟨VV,hw,hE⟩:=hH.map hb hν;have hg:(getObj b).run P w=.ok (.map VV cl) w:=gx hw;split at h
   ·rename_i v0 hfi;cases h;rcases ve hkd hE 0 hfi with ⟨h1,h2⟩|⟨v1,v',j,h1,h2,h3⟩
    ·cases h1
    ·cases h1;refine⟨_,pS h2,?_⟩;unfold Instr.lookup;rw[aa8,aG hu];simp only[aa7,aa8,hg,ci,gi hk,hf _ _ h3]
     try (cases ok <;> rfl)
   ·rename_i hfi;split at h
    ·rename_i z hz;cases h;obtain⟨h1,h2⟩:=vf hz w;rcases ve hkd hE 0 hfi with ⟨h3,h4⟩|⟨v1,v',j,h3,h4,h5⟩
     ·refine⟨_,pS (.plain_refl _ h2),?_⟩;unfold Instr.lookup;rw[aa8,aG hu];simp only[aa7,aa8,hg,ci,gi hk,hf _ _ h4,h1]
      try (cases ok <;> rfl)
     ·cases h3
    ·cases h
   ·cases h
  ·cases h
 ·cases h
end hp
section sl
variable {ν ν':Nu} {P:Program} {G N:Nat} {T T':Tr Value} {a:Act} {H:AH} {F:HL} {w:World}
def PP(x:Option Value)(n d:Nat):Prop:=(x=none/\n=d)\/∃k,x=some (.int k (n:Int))
theorem sW{k:IntKind}{y:Nat}{c:BoundsCode}(h:n<=y)(w:World):(Instr.sliceBound (.int k (n:Int)) y c).run P w=.ok n w:=by
 simp[Instr.sliceBound,asIntOf,h,go_sem]
theorem oa{b:Bool}{len cap l h m:Nat}{lo hi mx:Option Value}(o1:PP lo l 0)(o2:PP hi h len)(o3:PP mx m cap)(hm:mx=none\/hi≠none)(h1:l<=h)(h2:h<=m)(h3:m<=cap)(w:World) :
  (Instr.sliceBounds b len cap lo hi mx).run P w=.ok (l,h,m) w:=by
 unfold Instr.sliceBounds;rcases o1 with ⟨rfl,rfl⟩|⟨k1,rfl⟩ <;> rcases o2 with ⟨rfl,rfl⟩|⟨k2,rfl⟩ <;> rcases o3 with ⟨rfl,rfl⟩|⟨k3,rfl⟩ <;>
  first
   | (rcases hm with e|e <;> first|(cases e;done)|exact(e rfl).elim)
   |simp[aa8,sW,h1,h2,h3]
theorem kx{d:Nat}{x:Option Operand}(dO:∀y,x=some y->VRi ν (ael T y) (a.eval y))(h:wH T d x=some n):PP (x.map a.eval) n d:=by
 cases x with
 |none=>rw[wH] at h;cases h;exact .inl ⟨rfl,rfl⟩
 |some y=>
  rw[wH] at h;obtain⟨k,e⟩:=nZ h (dO y rfl);exact .inr ⟨k,by simp[e]⟩
theorem zr(h o m l k:Nat):Dh ⟨h,o,none⟩ m l k=⟨h,if m=l then o else o+l*k,none⟩:=by
 unfold Dh;split
 ·rename_i e;rw[if_pos (aaX e)]
 ·rename_i e;rw[if_neg (λ e'=>by subst e';simp at e),pd]
theorem zt(b o m l k:Nat):(if m=l then (⟨b,o,none⟩:Addr) else (⟨b,o,none⟩:Addr).add (l*k))=⟨b,if m=l then o else o+l*k,none⟩:=by
 split
 ·rfl
 ·rw[nY]
theorem bI{a:Nat}(h:Nat.ble a b=true):a<=b:=aaH h
theorem sX{k l h m c c':Nat}{base BY:Option Addr}{n':Nat}{v:Value}(hr:VRi ν (.slice base n c) (.slice BY n' c'))(hc:c<lw)(hv:wI k base l h m c=some v) :
  l<=h/\h<=m/\m<=c/\VRi ν v (.slice (if m=l then BY else BY.map (·.add (l*k))) (h-l) (m-l)):=by
 unfold wI at hv;split at hv
 case h_2=>cases hv
 rename_i h1 h2 h3;refine⟨bI h1,bI h2,bI h3,?_⟩;have h3':=bI h3;split at hv
 ·cases hv;cases hr;split <;> exact .atom _ rfl
 ·split at hv
  ·cases hv;cases hr with
   |atom _ h=>simp[cw] at h
   | @slice _ b _ _ _ o n hν hcap=>
    rw[zr];have:(if m=l then (some ⟨b,o,none⟩:Option Addr) else (some ⟨b,o,none⟩:Option Addr).map (·.add (l*k)))=some ⟨b,if m=l then o else o+l*k,none⟩:=by
     rw[<- zt];split <;> rfl
    rw[this];exact .slice _ _ hν ⟨λ _=>rfl,λ e=>by omega⟩
  ·cases hv
theorem FT{x:Value}{ρx:Value}{lo hi mx:Option Operand}{v:Value}(hH:HR ν H F w)(hx:VRi ν x ρx)(hlo:∀y,lo=some y->VRi ν (ael T y) (a.eval y))(hhi:∀y,hi=some y->VRi ν (ael T y) (a.eval y))(hmx:∀y,mx=some y->VRi ν (ael T y) (a.eval y))
  (h:BZ P t H T x lo hi mx=some v):∃v',VRi ν v v'/\(Instr.sliceAt t ρx (lo.map a.eval) (hi.map a.eval) (mx.map a.eval)).run P w=.ok v' w:=by
 unfold BZ at h;split at h
 ·cases h
 rename_i hmo;have acP:(mx.map a.eval=none\/hi.map a.eval≠none):=by
  unfold RP at hmo;split at hmo
  ·cases hmo
  ·rename_i e;cases mx with
   |none=>exact .inl rfl
   |some m=>cases hi with
    |none=>exact(e _ rfl rfl).elim
    |some hh=>exact .inr (by simp)
 split at h
 ·rename_i el hu;split at h
  case h_2=>cases h
  rename_i base n c;split at h
  case h_2=>cases h
  rename_i k l hh hs hl hhn;have US:=eh hs w;have b1:=kx hlo hl;have b2:=kx hhi hhn;split at h
  ·rename_i hc;have VU:=dN hc;split at h
   case h_2=>cases h
   rename_i m hm;have b3:=kx hmx hm;have Zw:∃BY,ρx=.slice BY n c/\VRi ν (.slice base n c) (.slice BY n c):=by
    cases hx with
    |atom _ h=>exact⟨_,rfl,.atom _ h⟩
    |slice o n hν hcap=>obtain rfl:=hcap.1 VU;exact⟨_,rfl,.slice o n hν hcap⟩
   obtain⟨BY,rfl,hr⟩:=Zw;obtain⟨g1,g2,g3,g4⟩:=sX hr VU h;refine⟨_,g4,?_⟩;unfold Instr.sliceAt;rw[aa8,aG hu];simp only[aa7];unfold Instr.slice;rw[aa8,aG hu];simp only[aa7];rw[aa8,oa b1 b2 b3 acP g1 g2 g3];simp only[aa7];rw[aa8,US];rfl
  ·rename_i hc;have VU:lw<=c:=by
    rcases aaV c lw with e|e
    ·have:Nat.blt c lw=true:=adc e;rw[this] at hc;cases hc
    ·exact e
   split at h
   case h_2=>cases h
   rename_i ad mo Wt;cases hx with
   |atom _ h=>simp[cw] at h
   | @slice hd b K _ c' o n hν hcap=>
   have V8:=hcap.2 VU;unfold JA at h;split at h
   case h_2=>cases h
   rename_i nn tr ty ww ro XD hb;split at h
   case h_2=>cases h
   rename_i e1 e2 e3 e4;simp only at hb;obtain⟨cc,ty',fz,hw,YM⟩:=hH.cells hb hν;have e1':ww=k:=aaX e1;have e2':=dN e2;have e3':=bI e3;have e4':=bI e4;have RW:=YM.gr (by omega);have hle:=YM.le;have ac8:∀q,(c-lw+q)*ww<=nn->q<=c':=λ q hq=>by
    have:(c-lw+q)*ww<=K*ww:=by omega
    have:=ad1 this e2';omega
   have f_:∀ (m:Nat),PP (mx.map a.eval) m c'->hh<=m->m<=c'->(Instr.sliceAt t (.slice (some ⟨b,o,none⟩) n c') (lo.map a.eval) (hi.map a.eval) (mx.map a.eval)).run P w=.ok (.slice (some ⟨b,if m=l then o else o+l*k,none⟩) (hh-l) (m-l)) w:=λ m b3 g2 g3=>by
    unfold Instr.sliceAt;rw[aa8,aG hu];simp only[aa7];unfold Instr.slice;rw[aa8,aG hu];simp only[aa7];rw[aa8,oa b1 b2 b3 acP e3' g2 g3];simp only[aa7];rw[aa8,US];have:(if m=l then (some ⟨b,o,none⟩:Option Addr) else (some ⟨b,o,none⟩:Option Addr).map (·.add (l*k)))=some ⟨b,if m=l then o else o+l*k,none⟩:=by
     rw[<- zt];split <;> rfl
    simp only[aa7,this,ci]
   split at h
   ·have hmn:mx=none:=by
     unfold PM at Wt;split at Wt
     ·rfl
     ·split at Wt <;> cases Wt
    subst hmn;have b3:PP ((none:Option Operand).map a.eval) c' c':=.inl ⟨rfl,rfl⟩;split at h
    ·rename_i g_;have aba:=dN g_;cases h;have g:=ac8 _ e4';refine⟨_,?_,f_ c' b3 g (aaI _)⟩;rw[pd,if_neg (by omega)];exact .slice _ _ hν ⟨λ e=>by omega,λ e=>by omega⟩
    ·rename_i Wk;split at h
     ·cases h;have g:=ac8 _ e4';have hh0:hh=0:=by
       rcases abI hh with e|e
       ·exact e
       ·have:Nat.blt 0 hh=true:=adc e;rw[this] at Wk;cases Wk
      subst hh0;refine⟨_,?_,f_ c' b3 g (aaI _)⟩;simp only[adS,abZ,ite_self,aek];exact .slice _ _ hν hcap
     ·cases h
   ·rename_i m;split at h
    case h_2=>cases h
    rename_i q1 q2 q3;cases h;have hmn:∃y,mx=some y/\LU (ael T y)=some m:=by
     unfold PM at Wt;split at Wt
     ·cases Wt
     ·rename_i y;split at Wt
      ·rename_i n' e';cases Wt;exact⟨y,rfl,e'⟩
      ·cases Wt
    obtain⟨y,rfl,ey⟩:=hmn;obtain⟨kk,ey'⟩:=nZ ey (hmx y rfl);have b3:PP ((some y:Option Operand).map a.eval) m c':=.inr ⟨kk,by simp[ey']⟩;refine⟨_,?_,f_ m b3 (bI q1) (ac8 _ (bI q2))⟩;rw[zr];have:=dN q3;exact .slice _ _ hν ⟨λ _=>rfl,λ e=>by omega⟩
 ·rename_i n el hu;split at h
  case h_2=>cases h
  rename_i ad;split at h
  case h_2=>cases h
  rename_i k l hh m hs hl hhn hm;have US:=eh hs w;have b1:=kx hlo hl;have b2:=kx hhi hhn;have b3:=kx hmx hm;split at h
  case h_2=>cases h
  rename_i hn;cases hx with
  |atom _ h=>simp[cw] at h
  | @ptr hd b K o hν=>
  obtain⟨g1,g2,g3,g4⟩:=sX (n:=0) (n':=0) (c':=n) (.slice o 0 hν ⟨λ _=>rfl,λ e=>by have:=dN hn;omega⟩:VRi ν (.slice (some ⟨hd,o,none⟩) 0 n) (.slice (some ⟨b,o,none⟩) 0 n)) (dN hn) h;refine⟨_,g4,?_⟩;unfold Instr.sliceAt;rw[aa8,aG hu];simp only[aa7];rw[aa8];simp only[Instr.sureAddr,ci,aa7];rw[aa8,oa b1 b2 b3 acP g1 g2 g3];simp only[aa7];rw[aa8,US];have:(if m=l then (some ⟨b,o,none⟩:Option Addr) else (some ⟨b,o,none⟩:Option Addr).map (·.add (l*k)))=some (if m=l then ⟨b,o,none⟩ else (⟨b,o,none⟩:Addr).add (l*k)):=by split <;> rfl
  rw[this];rfl
 ·cases h
theorem zu{v:Value}(hH:HR ν H F w)(h:jJ P o T H=some v){l:List Operand}(hl:bW o.op=some l)(dO:OK ν T a l):∃v',VRi ν v v'/\(execOp a.eval o).run P w=.ok (.value v') w:=by
 have Yo:=hl;unfold jJ at h;split at h
 ·rename_i t x ho;rw[ho] at hl;simp only[bW,de] at hl;subst hl;have hx:=dO x (by simp);split at h
  ·rename_i ad e;rw[e] at hx;generalize hu:a.eval x=u at hx;have hx2:=hx;cases hx with
   |atom _ h=>simp[cw] at h
   |ptr o hν=>
    obtain⟨v',r,e2⟩:=zq hH hx2 h;refine⟨v',r,?_⟩;simp[execOp,ho,Instr.loadAt,Instr.sureAddr,hu,aa8,e2]
  ·cases h
 ·rename_i t m k ok ho;rw[ho] at hl;simp only[bW,de] at hl;subst hl;obtain⟨hp,v',r,e⟩:=JR hH (dO m (by simp)) h;have hk:=(dO k (by simp)).plain_eq hp;refine⟨v',r,?_⟩;simp[execOp,ho,hk,aa8,e]
 ·rename_i t x lo hi mx ho;split at h
  ·obtain⟨v',r,e⟩:=pR h Yo dO;exact⟨v',r,e w⟩
  ·rw[ho] at hl;simp only[bW,de] at hl;subst hl;obtain⟨v',r,e⟩:=FT (a:=a) hH (dO x (by simp)) (λ y hy=>dO y (by subst hy;simp)) (λ y hy=>dO y (by subst hy;simp)) (λ y hy=>dO y (by subst hy;simp)) h;refine⟨v',r,?_⟩;simp[execOp,ho,aa8,e]
 ·cases h
end sl
section wr
variable {ν ν':Nu} {P:Program} {G N:Nat} {T T':Tr Value} {a:Act} {H H':AH} {F:HL} {w w':World}
theorem dF{H:AH}{h k:Nat}{b:Option AB}:bP (cM H h b) k=if h=k then b else bP H k:=jm
theorem HR.upd(hH:HR ν H F w){h r:Nat}{b0 b1:AB}{o':Obj}(hb:bP H h=some b0)(hw0:JQ b0=true)(hw1:JQ b1=true)(hν:ν h=some (r,K))(hr:w'.heap[r]?=some o')(ho:OR ν K b1 o')(hs:∀k,k≠r->w'.heap[k]?=w.heap[k]?):HR ν (cM H h (some b1)) F w':=by
 have At:∀k b,bP (cM H h (some b1)) k=some b->k≠h->bP H k=some b:=λ k b hk DO=>by
  rw[dF,if_neg (Ne.symm DO)] at hk;exact hk
 have ex:∀k b,bP (cM H h (some b1)) k=some b->∃b',bP H k=some b'/\(JQ b=true->JQ b'=true):=λ k b hk=>by
  by_cases e:k=h
  ·subst e;exact⟨b0,hb,λ _=>hw0⟩
  ·exact⟨b,At k b hk e,λ e=>e⟩
 refine⟨λ k b hk=>?_,λ k1 k2 b1' b2' q K1 K2 h1 h2 h3 h4=>?_,λ x hx=>?_,λ k b q K' hk hq x hx=>?_⟩
 ·by_cases e:k=h
  ·subst e;rw[dF,if_pos rfl] at hk;cases hk;exact⟨r,K,o',hν,hr,ho⟩
  ·have XI:=At k b hk e;obtain⟨q,K',o,h1,h2,h3⟩:=hH.blk k b XI;refine⟨q,K',o,h1,?_,h3⟩;rw[hs q,h2];intro e';subst e';exact e (hH.inj _ _ _ _ _ _ _ XI hb h1 hν)
 ·obtain⟨c1,d1,-⟩:=ex _ _ h1;obtain⟨c2,d2,-⟩:=ex _ _ h2;exact hH.inj _ _ _ _ _ _ _ d1 d2 h3 h4
 ·rw[hs _ (hH.apt _ _ _ _ hb hν x hx)];exact hH.frm x hx
 ·obtain⟨c1,d1,d2⟩:=ex _ _ hk;exact hH.apt _ _ _ _ d1 hq x hx
theorem HR.del(hH:HR ν H F w)(h:Nat):HR ν (cM H h none) F w:=by
 have At:∀k b,bP (cM H h none) k=some b->bP H k=some b:=λ k b hk=>by
  rw[dF] at hk;split at hk
  ·cases hk
  ·exact hk
 exact⟨λ k b hk=>hH.blk k b (At k b hk),λ k1 k2 b1 b2 q K1 K2 h1 h2 h3 h4=>hH.inj _ _ _ _ _ _ _ (At _ _ h1) (At _ _ h2) h3 h4,hH.frm,λ k b q K hk=>hH.apt k b q K (At k b hk)⟩
theorem HR.add(hH:HR ν H F w){r:Nat}{b:AB}{o:Obj}(hn:ν n=none)(hr:w.heap[r]?=some o)(ho:OR ν K b o)(hwb:JQ b=true)(hF:∀x∈F,x.1≠r)(Yc:∀k b' K',bP H k=some b'->ν k≠some (r,K')):HR (ν.upd n r K) (cM H n (some b)) F w:=by
 have hle:ν.Le (ν.upd n r K):=kq hn;have Wj:bP H n=none:=by
  cases e:bP H n with
  |none=>rfl
  |some b'=>obtain⟨q,K',o',h1,-⟩:=hH.blk n b' e;rw[hn] at h1;cases h1
 have At:∀k b',bP (cM H n (some b)) k=some b'->k≠n->bP H k=some b':=λ k b' hk DO=>by
  rw[dF,if_neg (Ne.symm DO)] at hk;exact hk
 refine⟨λ k b' hk=>?_,λ k1 k2 b1 b2 q K1 K2 h1 h2 h3 h4=>?_,hH.frm,λ k b' q K' hk hq x hx=>?_⟩
 ·by_cases e:k=n
  ·subst e;rw[dF,if_pos rfl] at hk;cases hk;exact⟨r,K,o,cf,hr,ho.mono hle⟩
  ·obtain⟨q,K',o',h1,h2,h3⟩:=hH.blk k b' (At k b' hk e);exact⟨q,K',o',hle _ _ h1,h2,h3.mono hle⟩
 ·by_cases e1:k1=n
  ·by_cases e2:k2=n
   ·rw[e1,e2]
   ·subst e1;rw[cf] at h3;rw[eO e2] at h4;cases h3;exact(Yc _ _ _ (At _ _ h2 e2) h4).elim
  ·by_cases e2:k2=n
   ·subst e2;rw[cf] at h4;rw[eO e1] at h3;cases h4;exact(Yc _ _ _ (At _ _ h1 e1) h3).elim
   ·rw[eO e1] at h3;rw[eO e2] at h4;exact hH.inj _ _ _ _ _ _ _ (At _ _ h1 e1) (At _ _ h2 e2) h3 h4
 ·by_cases e:k=n
  ·subst e;rw[cf] at hq;cases hq;exact hF x hx
  ·rw[eO e] at hq;exact hH.apt _ _ _ _ (At _ _ hk e) hq x hx
theorem HR.world(hH:HR ν H F w)(hs:∀k,k<w.heap.size->w'.heap[k]?=w.heap[k]?):HR ν H F w':=by
 refine⟨λ k b hk=>?_,hH.inj,λ x hx=>?_,hH.apt⟩
 ·obtain⟨q,K',o',h1,h2,h3⟩:=hH.blk k b hk;exact⟨q,K',o',h1,by rw[hs _ (bX h2)];exact h2,h3⟩
 ·have:=hH.frm x hx;rw[hs _ (bX this)];exact this
theorem HR.new(hH:HR ν H F w){b:AB}{o:Obj}(hn:ν n=none)(ho:OR ν K b o)(hwb:JQ b=true)(hw:w'.heap=w.heap.push o):HR (ν.upd n w.heap.size K) (cM H n (some b)) F w':=by
 have h1:HR ν H F w':=hH.world (λ k hk=>by rw[hw,adW,if_neg (by omega)]);refine h1.add hn (by rw[hw];simp) ho hwb (λ x hx e=>?_) (λ k b' K' hk e=>?_)
 ·have:=bX (hH.frm x hx);omega
 ·have:=hH.lt hk e;omega
theorem mg{l:List Value}{i:Nat}(h:i<l.length):cN (dM undef l 0 .lf) i=l[i]:=by
 unfold cN;rw[ry];simp[h]
theorem vg(l:List Value)(ty:TypeId):jR l ty=.cells l.length (dM undef l 0 .lf) ty 0 false:=by
 unfold jR;split <;> rename_i h <;> rw[h,d9]
theorem ky(l:List Value)(ty:TypeId)(k:Nat):wK l ty k=.cells l.length (dM undef l 0 .lf) ty k false:=by
 unfold wK;split <;> rename_i h <;> rw[h,d9]
theorem Oz{l l' rest:List Value}(h:LR ν l l')(hk:ww≠0->(l'++rest).length=K*ww):CR ν K l.length (dM undef l 0 .lf) ty ww ⟨l'++rest⟩ ty (0,0):=by
 refine⟨rfl,by simp[h.length],rfl,λ i hi=>?_,λ e=>by simpa using hk e⟩;obtain⟨v',e,r⟩:=h.get (aaP hi);refine⟨v',?_,by rw[mg hi];exact r⟩;have:(l'++rest)[i]?=some v':=by rw[aaQ (by rw[h.length];exact hi)];exact e
 simpa using this
theorem OR.cellsB{l l':List Value}(h:LR ν l l'):OR ν K (jR l ty) (.cells ⟨l'⟩ ty (0,0)):=by
 rw[vg];have:=Oz (ty:=ty) (ww:=0) (K:=K) (rest:=[]) h (λ e=>(e rfl).elim);have h2:CR ν K l.length (dM undef l 0 .lf) ty 0 ⟨l'⟩ ty (0,0):=by simpa using this
 exact h2
theorem kX{l:List Value}:JQ (jR l ty)=true:=by rw[vg];rfl
theorem sY(t:Tr Value):∀ (vs:List Value) (i j:Nat),cN (kQ t i vs) j=if h:i<=j/\j-i<vs.length then vs[j-i] else cN t j:=by
 intro vs
 induction vs generalizing t with
 |nil=>intro i j;simp[kQ]
 |cons v vs ih=>
  intro i j;rw[kQ,ih];have cM:cN (tV t i v) j=if i=j then v else cN t j:=jm
  by_cases h1:i=j
  ·subst h1;have:¬ (i+1<=i/\i-(i+1)<vs.length):=by omega
   rw[dif_neg this,cM,if_pos rfl];simp
  ·by_cases h2:i<=j
   ·have h4:j-i=(j-(i+1))+1:=by omega
    by_cases h3:j-(i+1)<vs.length
    ·rw[dif_pos ⟨by omega,h3⟩,dif_pos ⟨h2,by rw[aaN];omega⟩];simp only[h4,ac2]
    ·rw[dif_neg (by omega),dif_neg (by rw[aaN];omega),cM,if_neg h1]
   ·rw[dif_neg (by omega),dif_neg (by omega),cM,if_neg h1]
theorem iw(b:Nat):∀ (vs:List Value) (o:Nat) (w:World) (k:Nat),k≠b->(w.setCells b o vs).heap[k]?=w.heap[k]?
 | [],_,_,_,_=>rfl
 |v::vs,o,w,k,h=>by rw[World.setCells,iw b vs _ _ _ h,ad3 _ _ _ _ h]
theorem iy(b:Nat):∀ (vs:List Value) (o:Nat) (w:World),Below 0 w (w.setCells b o vs)
 | [],_,w=>go 0 w
 |v::vs,o,w=>by
  rw[World.setCells];exact((go 0 w).setCell (aaJ _) v).trans (iy b vs (o+1) _)
theorem mh(b:Nat):∀ (vs:List Value) (o:Nat) (w:World) {c:Array Value} {ty:TypeId} {fz:Nat×Nat},w.heap[b]?=some (.cells c ty fz)->∃c',(w.setCells b o vs).heap[b]?=some (.cells c' ty fz)/\c'.size=c.size/\∀j,j<c.size->c'[j]?=if h:o<=j/\j-o<vs.length then some vs[j-o] else c[j]?
 | [],o,w,c,ty,fz,h=>⟨c,h,rfl,λ j _=>by simp⟩
 |v::vs,o,w,c,ty,fz,h=>by
  have h1:(w.setCell ⟨b,o,none⟩ v).heap[b]?=some (.cells (c.setIfInBounds o v) ty fz):=by
   simp[World.setCell,ada,h]
  obtain⟨c',e1,e2,e3⟩:=mh b vs (o+1) _ h1;refine⟨c',e1,by simpa using e2,λ j hj=>?_⟩;rw[e3 j (by simpa using hj)]
  by_cases h2:o=j
  ·subst h2;rw[dif_neg (by omega),dif_pos ⟨aaI _,by simp⟩,lv hj];simp
  ·rw[WP h2]
   by_cases h3:o<=j
   ·have h4:j-o=(j-(o+1))+1:=by omega
    by_cases h5:j-(o+1)<vs.length
    ·rw[dif_pos ⟨by omega,h5⟩,dif_pos ⟨h3,by rw[aaN];omega⟩];simp only[h4,ac2]
    ·rw[dif_neg (by omega),dif_neg (by rw[aaN];omega)]
   ·rw[dif_neg (by omega),dif_neg (by omega)]
theorem Ca{v:Value}{l:List Value}(hf:kj (v::l)=true):(∀cs,v≠Value.agg cs)/\(∀cs,v≠Value.tuple cs)/\kj l=true:=by
 cases v <;> simp[kj] at hf <;> simp[hf]
theorem vh(h:LR ν vs UH)(hf:kj vs=true):∀u∈UH,u.oneCell'=true:=by
 induction h with
 |nil=>intro u hu;cases hu
 |cons hv _ ih=>
  intro u hu;obtain⟨h1,h2,h3⟩:=Ca hf;rcases abs.1 hu with rfl|hu
  ·cases hv <;> first|rfl|exact(h1 _ rfl).elim|exact(h2 _ rfl).elim|skip
   rename_i v0 _ _ _ e;cases v0 <;> first|rfl|simp[cw] at e
  ·exact ih h3 u hu
theorem pT{h o:Nat}(hH:HR ν H F w)(hν:ν h=some (b,K))(hl:LR ν vs UH)(hp:pO H ⟨h,o,none⟩ vs=some H') :
  (∀j,j<UH.length->(w.cell? ⟨b,o+j,none⟩).isSome=true)/\(∀j,j<UH.length->w.frozen? ⟨b,o+j,none⟩=false)/\(∀u∈UH,u.oneCell'=true)/\HR ν H' F (w.setCells b o UH)/\Below 0 w (w.setCells b o UH):=by
 unfold pO at hp;split at hp
 case h_2=>cases hp
 rename_i n tr ty ww hs hb;split at hp
 case h_2=>cases hp
 rename_i hle hf;cases hp;simp only at hb;obtain⟨c,ty',fz,hw,hc⟩:=hH.cells hb hν;have abb:=bI hle;rw[d9] at abb;simp only at abb;have hlen:=hl.length;have Xc:=hc.le;refine⟨λ j hj=>?_,λ j hj=>?_,vh hl hf,?_,iy _ _ _ _⟩
 ·rw[mM hw,abn (by omega)];rfl
 ·obtain⟨lo,hi⟩:=fz;have:=hc.fz;cases this;simp[World.frozen?,hw]
 ·obtain⟨c',e1,e2,e3⟩:=mh b UH o w hw;refine hH.upd (b1:=.cells n (kQ tr o vs) ty ww false) hb rfl rfl hν e1 ?_ (λ k hk=>iw b UH o w k hk);refine⟨hc.ty,by rw[e2];exact Xc,hc.fz,λ i hi=>?_,λ e=>by rw[e2];exact hc.gr e⟩;rw[e3 i (by omega),sY]
  by_cases h1:o<=i/\i-o<vs.length
  ·obtain⟨v',g1,g2⟩:=hl.get (aaP h1.2);rw[dif_pos h1,dif_pos ⟨h1.1,by rw[hlen];exact h1.2⟩];refine⟨v',?_,g2⟩;rw[<- g1,aaP]
  ·rw[dif_neg h1,dif_neg (by rw[hlen];exact h1)];exact hc.get i hi
theorem FU{v:Value}(hH:HR ν H F w)(hp:VRi ν (.pointer (some ad)) (.pointer (some ad')))(hv:VRi ν v v')(h:wJ P t H ad v=some H'):∃w',(storeVar t ad' v').run P w=.ok () w'/\HR ν H' F w'/\Below 0 w w':=by
 cases hp with
 |atom _ h=>simp[cw] at h
 | @ptr hd b K o hν=>
  unfold wJ at h;split at h
  case h_2=>cases h
  rename_i k hk;split at h
  case h_2=>cases h
  rename_i hl;have YM:=kU hv;obtain⟨h1,h2,h3,h4,h5⟩:=pT hH hν YM h;refine⟨_,?_,h4,h5⟩;have RW:v'.cells.size=k:=by
   have e1:=aaX hl;rw[d9,<- YM.length,gG] at e1;simpa using e1
  unfold storeVar;rw[aa8,eh hk];simp only[aa7,RW,ne_eq,not_true_eq_false,if_false];have:=run_storeCells_cells (P:=P) b o (iq v') 0 w (by simpa using h1) (by simpa using h2) h3;rw[gG] at this;rw[<- gG] at *;simpa [aa8,ci] using this
end wr
end
section
variable {K cap k m n n':Nat} {ad:Addr} {e' el t ty u:TypeId} {inf:TypeInfo} {x' y y':Value} {ν:Nu}
section nw
variable {ν ν':Nu} {P:Program} {G N:Nat} {T T':Tr Value} {a:Act} {H H':AH} {F:HL} {w w':World}
theorem fj(o:Obj)(w:World):(newObj o).run P w=.ok w.heap.size { w with heap:=w.heap.push o }:=rfl
def Mk.ok:Mk->Prop
 | .sl _ c=>c<lw
 |_=>True
theorem JS{m:Mk}(h:m.ok){r:Nat}(hν:ν n=some (r,K)):VRi ν (m.val n) (m.val r):=by
 cases m with
 |ptr=>exact .ptr 0 hν
 |sl l c=>exact .slice 0 l hν ⟨λ _=>rfl,λ e=>by unfold Mk.ok at h;omega⟩
 |mp=>exact .map hν
theorem JT(z:List Value)(n:Nat):(m8 z n).length=n*z.length:=by
 induction n with
 |zero=>simp[m8]
 |succ n ih=>simp[m8,ih,acB];omega
theorem zw(z:List Value):∀ (n i:Nat),i<n*z.length->(m8 z n)[i]?=z[i%z.length]?
 |0,i,h=>by omega
 |n+1,i,h=>by
  rw[m8];rcases aaV i z.length with h1|h1
  ·rw[aaQ h1,aeb h1]
  ·rw[aaR h1,zw z n _ (by rw[acB] at h;omega),Nat.mod_eq_sub_mod h1]
theorem vi(z:List Value)(n:Nat)(hz:0<z.length):(Array.range (n*z.length)).map (λ i=>(⟨z⟩:Array Value)[i%(⟨z⟩:Array Value).size]!)=⟨m8 z n⟩:=by
 apply Array.ext';apply abP;intro i;rcases aaV i (n*z.length) with h|h
 ·have h2:i%z.length<z.length:=Nat.mod_lt _ hz;simp only[acl,ad5,abf,acG h,abK];rw[zw z n i h];simp[h2]
 ·rw[vo (by simp;exact h),vo (by rw[JT];exact h)]
theorem sZ{z:List Value}(h:LR ν z z):∀n,LR ν (m8 z n) (m8 z n)
 |0=>.nil
 |n+1=>h.append (sZ h n)
theorem mN(h:uV P t=some el):P.underlying t=some (.slice el):=by
 unfold uV at h;split at h
 ·rename_i e;cases h;exact e
 ·cases h
theorem Dn{o:Oper}{b:AB}{m:Mk}(h:tX P o T=some (b,m)){l:List Operand}(hl:bW o.op=some l)(dO:OK ν T a l) :
  JQ b=true/\m.ok/\∃o',(∀K,OR ν K b o')/\∀w,(execOp a.eval o).run P w=.ok (.value (m.val w.heap.size)) { w with heap:=w.heap.push o' }:=by
 unfold tX at h;split at h
 ·rename_i t ho;split at h
  ·rename_i z hz;cases h;obtain⟨zv,h1,h2,h3,-⟩:=kr (ν:=ν) hz;refine⟨kX,trivial,_,λ K=>OR.cellsB h3,λ w=>?_⟩;simp[execOp,ho,Instr.alloc,aa8,h1,newVar,newRow,h2,fj,ci,Result.andThen,Mk.val]
  ·cases h
 ·rename_i t x ho;rw[ho] at hl;simp only[bW,de] at hl;subst hl;cases h;refine⟨kX,trivial,_,λ K=>OR.cellsB (kU (dO x (by simp))),λ w=>?_⟩;simp[execOp,ho,Instr.box,aa8,newVar,newRow,fj,ci,Result.andThen,Mk.val,gG]
 ·rename_i t len parts ho;rw[ho] at hl;simp only[bW,de] at hl;subst hl;split at h
  case h_2=>cases h
  rename_i el he;split at h
  case h_2=>cases h
  rename_i k z hk hz;split at h
  case h_2=>cases h
  rename_i g1 g2 g3;split at h
  case h_2=>cases h
  rename_i l hf;cases h;have hu:=mN he;have XV:z.length=k:=by rw[d9] at g2;exact aaX g2
  have hk0:=dN g3;have g1':=bI g1;obtain⟨zv,h1,h2,h3,-⟩:=kr (ν:=ν) hz;obtain⟨l',e1,e2⟩:=pQ (sU dO) (sZ h3 len) hf;refine⟨kX,?_,_,λ K=>OR.cellsB e2,λ w=>?_⟩
  ·have:len<=len*k:=Nat.le_mul_of_pos_right _ hk0;show len<lw;unfold lw;omega
  have h6:=kW e1;have h7:(parts.map λ (p:Nat×Operand)=>(p.1,a.eval p.2)).toList=parts.toList.map λ p=>(p.1,a.eval p.2):=by simp
  have h8:=vi z len (by omega);rw[XV] at h8;have hs:=eh hk w;unfold Go.execOp;rw[ho];simp only;rw[aa8];have:(Instr.buildSlice t len (parts.map λ (p:Nat×Operand)=>(p.1,a.eval p.2))).run P w=.ok (.slice (some ⟨w.heap.size,0,none⟩) len len) { w with heap:=w.heap.push (.cells ⟨l'⟩ el (0,0)) }:=by
   unfold Instr.buildSlice;rw[aa8,aG hu];simp only[aa7];rw[aa8,hs];simp only[aa7];rw[if_neg (by simp;omega)]
   by_cases Yo:len*k=0
   ·have hlen:len=0:=by
     rcases abI len with e|e
     ·exact e
     ·have:=Nat.mul_pos e hk0;omega
    subst hlen;simp only[adS,if_true];rw[aa8];simp only[ci,aa7];have h9:(Array.range 0).map (λ i=>(#[]:Array Value)[i%(#[]:Array Value).size]!)=⟨m8 z 0⟩:=by simp[m8]
    rw[h9,h7,h6];simp only[aa8,newRow,fj,aa7,ci]
   ·rw[if_neg Yo];rw[aa8,h1];simp only[aa7];rw[aa8];simp only[ci,aa7,h2];rw[h8,h7,h6];simp only[aa8,newRow,fj,aa7,ci]
  rw[this];rfl
 ·rename_i t lo co ho;rw[ho] at hl;simp only[bW,de] at hl;subst hl;split at h
  case h_2=>cases h
  rename_i el he;split at h
  case h_2=>cases h
  rename_i inf hi;split at h
  case h_2=>cases h
  rename_i z n m' hz hn hm;split at h
  case h_2=>cases h
  rename_i g1 g2 g3 g4 g5 g6;cases h;have hu:=mN he;have XV:z.length=inf.size:=by rw[d9] at g4;exact aaX g4
  have hk0:=dN g5;have g1':=bI g1;have g2':=bI g2;have g3':=dN g3;have g6':=dN g6;obtain⟨zv,h1,h2,h3,-⟩:=kr (ν:=ν) hz;obtain⟨kn,en⟩:=nZ hn (dO lo (by simp));obtain⟨km,em⟩:=nZ hm (dO co (by simp));refine⟨kX,g3',_,λ K=>OR.cellsB (sZ h3 m'),λ w=>?_⟩;have h8:=vi z m' (by omega);rw[XV] at h8;unfold lw at g3';have w1:i64.wrap (n:Int)=(n:Int):=IntWalk.i64_in _ (by omega);have w2:i64.wrap (m':Int)=(m':Int):=IntWalk.i64_in _ (by omega);have RW:fh P el=some inf.size:=by unfold fh;rw[hi];rfl
  have hs:=eh RW;have hti:=λ W=>cO hi W;have q1:¬ ((281474976710656:Int)<(inf.bytes:Int)*(m':Int)):=by
   have:(inf.bytes:Int)*(m':Int)=((inf.bytes*m':Nat):Int):=by simp
   omega
  have q2:¬ ((m':Int)<0):=by omega
  have q3:¬ ((n:Int)<0):=by omega
  have q4:¬ ((m':Int)<(n:Int)):=by omega
  have AT:∀x W,(askRoom x).run P W=.ok () W:=λ x W=>by unfold askRoom;split <;> rfl
  unfold Go.execOp;rw[ho];simp only;rw[aa8];have:(Instr.makeSlice t (a.eval lo) (a.eval co)).run P w=.ok (.slice (some ⟨w.heap.size,0,none⟩) n m') { w with heap:=w.heap.push (.cells ⟨m8 z m'⟩ el (0,0)) }:=by
   unfold Instr.makeSlice;rw[aa8,aG hu];simp only[aa7];rw[en,em];simp only[asInt,asIntOf,aa8,ci,aa7,hti,w1,w2];rw[if_neg (by simp[q1,q2,q3,q4])];simp only[aa8,AT,aa7,hs,Int.toNat_natCast]
   by_cases Yo:m'*inf.size=0
   ·have hlen:m'=0:=by
     rcases abI m' with e|e
     ·exact e
     ·have:=Nat.mul_pos e hk0;omega
    subst hlen;simp only[adS,if_true];rw[aa8];simp only[ci,aa7];have h9:(Array.range 0).map (λ i=>(#[]:Array Value)[i%(#[]:Array Value).size]!)=⟨m8 z 0⟩:=by simp[m8]
    rw[h9];simp only[aa8,newRow,fj,aa7,ci]
   ·rw[if_neg Yo];simp only[aa8,h1,ci,aa7,h2];rw[h8];simp only[aa8,newRow,fj,aa7,ci]
  rw[this];rfl
 ·rename_i t r ho;have XG:∀W:World,(newObj (.map #[] 0)).run P W=.ok W.heap.size { W with heap:=W.heap.push (.map #[] 0) }:=λ W=>rfl;split at h
  ·cases h;refine⟨rfl,trivial,.map #[] 0,λ K=>⟨rfl,.nil⟩,λ w=>?_⟩;simp[execOp,ho,Instr.makeMap,aa8,XG,ci,Result.andThen,Mk.val]
  ·rename_i r;rw[ho] at hl;simp only[bW,de] at hl;subst hl;split at h
   ·rename_i kt et k n hu he;cases h;have hr:=dO r (by simp);rw[he] at hr;have er:=hr.plain_eq rfl;refine⟨rfl,trivial,.map #[] 0,λ K=>⟨rfl,.nil⟩,λ w=>?_⟩;simp[execOp,ho,Instr.makeMap,aa8,aG hu,er,asInt,asIntOf,XG,ci,Result.andThen,Mk.val]
   ·cases h
 ·cases h
theorem JU{d:TypeDesc}{k k':Value}(h:ma k k'=some true)(hk:wM d k=true):k'=k/\Instr.sameBits 10000 k' k=true:=by
 unfold ma at h;split at h
 ·split at h
  ·rename_i e;have e':=aa9 e;simp only[de,beq_iff_eq] at h;subst e';subst h;exact⟨rfl,by simp[Instr.sameBits]⟩
  ·cases h
 ·simp only[de] at h;have:=GR.1 h;subst this;exact⟨rfl,by simp[Instr.sameBits];exact LY⟩
 ·simp only[de,beq_iff_eq] at h;subst h;exact⟨rfl,by simp[Instr.sameBits]⟩
 ·cases h
theorem Cb{d:TypeDesc}{k v v':Value}(hk:wM d k=true)(hv:VRi ν v v'){es:List (Value×Value×Nat)}{VV:List MapEntry}(h:ER ν es VV):∀ {r:List (Value×Value×Nat)} {cl cl':Nat} (i:Nat),sJ k v cl es=some (r,cl')->
  (Instr.findNow d k VV i=some none/\cl'=cl+1/\ER ν r (VV++[⟨k,v',cl⟩]))\/(∃j u,Instr.findNow d k VV i=some (some (i+j,u))/\cl'=cl/\(VV[j]?).map (·.key)=some k/\Instr.sameBits 10000 k k=true/\ER ν r (VV.modify j λ e=>{ e with key:=k,val:=v' })):=by
 induction h with
 |nil=>intro r cl cl' i h;rw[sJ] at h;cases h;exact .inl ⟨rfl,rfl,.cons k cl hv .nil⟩
 | @cons u0 u0' l0 l0' k' b hv0 h0 ih=>
  intro r cl cl' i h;rw[sJ] at h;split at h
  ·rename_i e;cases h;obtain⟨e1,e2⟩:=JU e hk;subst e1;refine .inr ⟨0,u0',?_,rfl,rfl,e2,.cons k' b hv h0⟩;rw[Instr.findNow];simp only[gH e hk];rfl
  ·rename_i e;split at h
   ·rename_i l c hl;cases h;rcases ih (i+1) hl with ⟨h1,h2,h3⟩|⟨j,u,h1,h2,h3,h4,h5⟩
    ·exact .inl ⟨by rw[Instr.findNow];simp only[gH e hk];exact h1,h2,.cons k' b hv0 h3⟩
    ·refine .inr ⟨j+1,u,?_,h2,by simpa using h3,h4,by simpa using ER.cons k' b hv0 h5⟩;rw[Instr.findNow];simp only[gH e hk];rw[h1];congr 3;omega
   ·cases h
  ·cases h
theorem Dp{m m' k v v':Value}(hH:HR ν H F w)(hm:VRi ν m m')(hv:VRi ν v v')(h:MO P t H m k v=some H'):pl k=true/\∃w',(Instr.mapUpdate t m' k v').run P w=.ok () w'/\HR ν H' F w'/\Below 0 w w':=by
 unfold MO at h;split at h
 case h_2=>cases h
 rename_i kt et hu;split at h
 case h_2=>cases h
 rename_i r hk;split at h
 case h_2=>cases h
 rename_i es cl hb;split at h
 case h_2=>cases h
 rename_i es2 cl2 hp;cases h;obtain⟨d,hd,hkd⟩:=B9 hk;refine⟨(sV hkd).1,?_⟩;cases hm with
 |atom _ h=>simp[cw] at h
 | @map _ b K hν=>
 obtain⟨VV,hw,hE⟩:=hH.map hb hν;have hg:(getObj b).run P w=.ok (.map VV cl) w:=gx hw;have hf:∀r,Instr.findNow d k VV.toList 0=some r->(Instr.findKey kt k VV.toList).run P w=.ok r w:=λ r hr=>by
  unfold Instr.findKey;rw[aa8,aG hd];simp only[aa7,hr];rfl
 have g_:=bX hw;have iN:∀o:Obj,(∃es c,o=.map es c)->(setObj b o).run P w=.ok () { w with heap:=w.heap.setIfInBounds b o }:=λ o ho=>by
  obtain⟨e1,c1,rfl⟩:=ho;unfold setObj;rw[ab8];simp only[hw];rfl
 have Zp:∀ (o:Obj),OR ν K (.map es2 cl2) o->HR ν (cM H r (some (.map es2 cl2))) F { w with heap:=w.heap.setIfInBounds b o }:=λ o ho=>by
  refine hH.upd (r:=b) (K:=K) hb rfl rfl hν (o':=o) ?_ ho (λ k hk=>?_)
  ·show (w.heap.setIfInBounds b o)[b]?=_;rw[lv g_]
  ·show (w.heap.setIfInBounds b o)[k]?=_;rw[WP (Ne.symm hk)]
 have hB:∀o:Obj,Below 0 w { w with heap:=w.heap.setIfInBounds b o }:=λ o=>⟨rfl,rfl,rfl,by simp,λ k hk=>by omega⟩;rcases Cb hkd hv hE 0 hp with ⟨h1,h2,h3⟩|⟨j,u,h1,h2,h3,h4,h5⟩
 ·refine⟨_,?_,Zp (.map (VV.push ⟨k,v',cl⟩) (cl+1)) ⟨h2.symm,by simpa using h3⟩,hB _⟩;unfold Instr.mapUpdate;rw[aa8,aG hu];simp only[aa7,aa8,hg,gi hk,hf _ h1];exact iN _ ⟨_,_,rfl⟩
 ·rw[abp] at h1;refine⟨_,?_,Zp (.map (VV.modify j λ e=>{ e with key:=k,val:=v' }) cl) ⟨h2.symm,by rw[Array.toList_modify];exact h5⟩,hB _⟩;unfold Instr.mapUpdate;rw[aa8,aG hu];simp only[aa7,aa8,hg,gi hk,hf _ h1];have h6:(VV[j]?).map (·.key)=some k:=by simpa using h3
  rw[h6];have h7:(Instr.keyThatStays k k).run P w=.ok k w:=by
   unfold Instr.keyThatStays;rw[if_pos h4];rfl
  simp only[aed,h7,aa7];exact iN _ ⟨_,_,rfl⟩
end nw
structure Ext(ν ν':Nu)(n n':Nat):Prop where
 le:n<=n'
 out:∀h,(h<n\/n'<=h)->ν' h=ν h
def Fr(ν:Nu)(n n':Nat):Prop:=∀h,n<=h->h<n'->ν h=none
theorem Ext.sub{ν':Nu}(h:Ext ν ν' n n')(hf:Fr ν n n'):ν.Le ν':=λ k x hx=>by
 rw[h.out k];exact hx;rcases aaV k n with h1|h1
 ·exact .inl h1
 ·rcases aaV k n' with h2|h2
  ·rw[hf k h1 h2] at hx;cases hx
  ·exact .inr h2
theorem Ext.refl(ν:Nu)(n:Nat):Ext ν ν n n:=⟨aaI _,λ _ _=>rfl⟩
theorem Ext.trans{a b c:Nu}(h:Ext a b n m)(h':Ext b c m k):Ext a c n k :=
 ⟨Nat.le_trans h.le h'.le,λ i hi=>by
  have h1:=h.le;have h2:=h'.le;rw[h'.out i (by omega),h.out i (by omega)]⟩
theorem Ext.fr{a b:Nu}(h:Ext a b n m)(hf:Fr a n k)(hm:m<=k):Fr b m k:=λ i h1 h2=>by
 have:=h.le;rw[h.out i (.inr h1)];exact hf i (by omega) h2
theorem Ext.upd{r:Nat}:Ext ν (ν.upd n r K) n (n+1):=⟨by omega,λ h hh=>eO (by omega)⟩
section ap
variable {ν ν':Nu} {P:Program} {G N:Nat} {T T':Tr Value} {a:Act} {H H':AH} {F:HL} {w w':World}
structure Effi(P:Program)(ν:Nu)(F:HL)(n:Nat)(s:Sem Value)(w:World)(v:Value)(H':AH)(n':Nat):Prop where
 h:∃ν' v' w',s.run P w=.ok v' w'/\VRi ν' v v'/\Ext ν ν' n n'/\HR ν' H' F w'/\Below 0 w w'
theorem mO{new:List Value}(hH:HR ν H F w)(hu:P.underlying u=some (.slice e'))(hy:VRi ν y y')(h:qQ H k y=some new) :
  ∃UM,LR ν new UM/\UM.length=dY y*k/\(kj new=true->Src P k u y' (dY y) UM w)/\(Builtin.firstCells k (dY y) y').run P w.drew=.ok UM.toArray w.drew/\(Builtin.firstCells k (dY y) y').run P w=.ok UM.toArray w:=by
 unfold qQ at h;split at h
 ·split at h
  ·cases h;rename_i c;cases hy;refine⟨[],.nil,by simp[dY],λ _=>Src.ofNil w hu _,?_,?_⟩
   ·exact run_firstCells_none _ _ _ _ _
   ·exact run_firstCells_none _ _ _ _ _
  ·cases h
 ·rename_i ad n c;cases hy with
  |atom _ h=>simp[cw] at h
  | @slice hd b K _ c' o _ hν hcap=>
  split at h
  case h_2=>cases h
  rename_i nn tr ty ww ro hs hb;split at h
  case h_2=>cases h
  rename_i hle;cases h;simp only at hb hle;obtain⟨cc,ty',fz,hw,hc⟩:=hH.cells hb hν;have abb:=bI hle;have hl:=kw hc.le hc.get (n*k) o abb;have Xc:=hc.le;have hlen:((cc.toList.drop o).take (n*k)).length=n*k:=by simp;omega
  have L_:∀ (W:World),W.heap=w.heap->∀ (j:Nat) (u:Value),((cc.toList.drop o).take (n*k))[j]?=some u->W.cell? ((⟨b,o,none⟩:Addr).add j)=some u:=λ W hW j u hj=>by
   rw[nY,mM (by rw[hW];exact hw)];have Xa:=(bt.1 hj).1;rw[hlen] at Xa;rw[acb Xa,abd] at hj;simpa using hj
  refine⟨_,hl,hlen,λ hf=>Src.ofSlice w hu _ _ _ _ hlen (L_ w rfl) (vh hl hf),?_,?_⟩
  ·exact run_firstCells_some _ _ _ _ _ _ _ hlen (L_ _ rfl)
  ·exact run_firstCells_some _ _ _ _ _ _ _ hlen (L_ _ rfl)
 ·cases h
theorem HR.del'(hH:HR ν H F w){h r:Nat}{b0:AB}(hb:bP H h=some b0)(hw0:JQ b0=true)(hν:ν h=some (r,K))(hs:∀k,k≠r->w'.heap[k]?=w.heap[k]?):HR ν (cM H h none) F w':=by
 have At:∀k b,bP (cM H h none) k=some b->bP H k=some b/\k≠h:=λ k b hk=>by
  rw[dF] at hk;split at hk
  ·cases hk
  ·rename_i e;exact⟨hk,Ne.symm e⟩
 refine⟨λ k b hk=>?_,λ k1 k2 b1 b2 q K1 K2 h1 h2 h3 h4=>hH.inj _ _ _ _ _ _ _ (At _ _ h1).1 (At _ _ h2).1 h3 h4,λ x hx=>?_,λ k b q K hk=>hH.apt k b q K (At k b hk).1⟩
 ·obtain⟨h1,h2⟩:=At k b hk;obtain⟨q,K',o,g1,g2,g3⟩:=hH.blk k b h1;refine⟨q,K',o,g1,?_,g3⟩;rw[hs q,g2];intro e;subst e;exact h2 (hH.inj _ _ _ _ _ _ _ h1 hb g1 hν)
 ·rw[hs _ (hH.apt _ _ _ _ hb hν x hx)];exact hH.frm x hx
theorem PQ{Yx At:Nat}(h:At<Yx):Builtin.nextslicecap Yx At<=2*Yx+192:=by
 unfold Builtin.nextslicecap;split
 ·omega
 ·split
  ·omega
  ·have:Builtin.growBy Yx 4 At<=Yx+Yx/4+192:=by
    simp only[Builtin.growBy]
    repeat' split
    all_goals omega
   omega
theorem zx{t u ty el e':TypeId}{inf:TypeInfo}{n len cap c':Nat}{base BY:Option Addr}{y y':Value}{new:List Value}{v:Value}{n':Nat}(hH:HR ν H F w)(ht:P.underlying t=some (.slice el))(hu:P.underlying u=some (.slice e'))(hi:P.info? el=some inf)
  (hx:VRi ν (.slice base len cap) (.slice BY len c')) (hy:VRi ν y y') (U0:qQ H inf.size y=some new) (Vc:kj new=true) (AT:len+dY y<=c') (h:sK H n inf.size len (dY y) cap base new=some (.val v H' n')) :
  Effi P ν F n (Builtin.append_ #[t,u] ty #[.slice BY len c',y']) w v H' n':=by
 obtain⟨UM,hl,hlen,hS,-,-⟩:=mO hH hu hy U0;have hS2:=hS Vc;unfold sK at h;split at h
 ·rename_i ad;split at h
  ·rename_i XD;split at h
   ·rename_i H2 hp;cases h;cases hx with
    |atom _ h=>simp[cw] at h
    | @slice hd b K _ _ o _ hν hcap=>
    obtain⟨q1,q2,q3,q4,q5⟩:=pT hH hν hl hp;have f_:=run_append_room_src (P:=P) w t u ty el inf ht hi b o len c' y' (dY y) UM hS2 AT q1 q2;exact⟨ν,_,_,f_,.slice _ _ hν hcap,.refl _ _,q4,q5⟩
   ·cases h
  ·cases h
 ·split at h
  ·cases h;cases hx with
   |atom _ _=>
   cases hl;have hS3:=hS Vc;have hz:(Builtin.firstCells inf.size (dY y) y').run P w=.ok #[] w:=hS3.cells;refine⟨ν,.slice none (len+dY y) cap,w,?_,.atom _ rfl,.refl _ _,hH,Below.refl _ _⟩;rcases hS3.kind with ⟨e',hk⟩|hk <;> simp[Builtin.append_,run_underlying ht,run_underlying hk,sizeOf,typeInfo,hi,hS3.len,hz,AT]
  ·cases h
theorem vj{z:List Value}{len c':Nat}{base BY:Option Addr}{At new:List Value}{v:Value}(hH:HR ν H F w)(ht:P.underlying t=some (.slice el))(hu:P.underlying u=some (.slice e'))(hi:P.info? el=some inf)(hz:lz P el=some z)(XV:z.length=inf.size)(RW:0<inf.size)
  (hx:VRi ν (.slice base len cap) (.slice BY len c')) (hy:VRi ν y y') (U0:qQ H inf.size y=some new) (Vc:kj new=true) (hold:qQ H inf.size (.slice base len cap)=some At) (AT:c'<len+dY y) (Y2:len+dY y<1000000) (Ye:inf.bytes<1000001) (hn:ν n=none)
  {Hd:AH} (hd:∀ν' w',HR ν' H F w'->HR ν' Hd F w') (h:jl Hd n inf.size len (dY y) el At new=.val v H' n') :
  Effi P ν F n (Builtin.append_ #[t,u] ty #[.slice BY len c',y']) w v H' n':=by
 obtain⟨UM,hl,hlen,hS,-,-⟩:=mO hH hu hy U0;obtain⟨XQ,Vo,WK,-,WI,-⟩:=mO hH ht hx hold;have hS:=hS Vc;obtain⟨zv,g1,g2,g3,i,g4,g5⟩:=kr (ν:=ν) hz;rw[hi] at g4;cases g4;have Wu:Builtin.nextslicecap (len+dY y) c'*inf.bytes<=281474976710656:=by
  have h1:=PQ AT;have h2:Builtin.nextslicecap (len+dY y) c'*inf.bytes<=2000192*1000000:=ad7 (by omega) (by omega);omega
 have f_:=run_append_grow_src (P:=P) w t u ty el inf zv ht hi g5 BY len c' XQ WI y' (dY y) UM hS AT (by omega) Wu;have VT:=grownCap_ge w (len+dY y) c' el;generalize grownCap w (len+dY y) c' el=K at *;unfold jl at h;cases h;refine⟨ν.upd n w.heap.size K,_,_,f_,?_,.upd,?_,⟨rfl,rfl,rfl,by simp,λ k hk=>by omega⟩⟩
 ·exact .slice _ _ cf ⟨λ e=>by unfold lw at e;omega,λ e=>by omega⟩
 ·have hd1:HR ν Hd F w:=hd _ _ hH;refine hd1.new hn (K:=K) ?_ (by rw[ky];rfl) (o:=.cells ((XQ++UM).toArray++Builtin.zeroCells zv.cells (K-(len+dY y))) el) rfl;rw[ky];have YM:=Oz (ty:=el) (ww:=inf.size) (K:=K) (rest:=(Builtin.zeroCells zv.cells (K-(len+dY y))).toList) (Vo.append hl) (λ _=>by
   simp only[aaK,hlen,WK,Builtin.zeroCells,acl,ab2,ad5,adN,g2];have ZC:dY (Value.slice base len cap)=len:=rfl;rw[ZC];have:(⟨z⟩:Array Value).size=inf.size:=by simpa using XV
   rw[this,<- abX,<- abX];congr 1;omega)
  have e:((XQ++UM).toArray++Builtin.zeroCells zv.cells (K-(len+dY y)))=⟨(XQ++UM)++(Builtin.zeroCells zv.cells (K-(len+dY y))).toList⟩:=by apply Array.ext';simp
  rw[e];exact YM
end ap
section ap
variable {ν ν':Nu} {P:Program} {G N:Nat} {T T':Tr Value} {a:Act} {H H':AH} {F:HL} {w w':World}
theorem lA{a b:Nat}(h:Nat.blt a b=false):b<=a:=by
 rcases aaV a b with e|e
 ·have:Nat.blt a b=true:=adc e;rw[this] at h;cases h
 ·exact e
theorem lB{a b:Nat}(h:Nat.ble a b=false):b<a:=by
 rcases aaV b a with e|e
 ·exact e
 ·have:Nat.ble a b=true:=adc e;rw[this] at h;cases h
theorem MU{z:List Value}{len:Nat}{new:List Value}{v:Value}(hH:HR ν H F w)(ht:P.underlying t=some (.slice el))(hu:P.underlying u=some (.slice e'))(hi:P.info? el=some inf)(hz:lz P el=some z)(XV:z.length=inf.size)(RW:0<inf.size)
  (hx:VRi ν (.slice (some ad) len cap) x') (hy:VRi ν y y') (U0:qQ H inf.size y=some new) (Vc:kj new=true) (Y2:len+dY y<1000000) (Ye:inf.bytes<1000001) (hcap:lw<=cap) (hn:Fr ν n n') (h:JB H n inf.size len (dY y) cap ad el new=some (.val v H' n')) :
  Effi P ν F n (Builtin.append_ #[t,u] ty #[x',y']) w v H' n':=by
 cases hx with
 |atom _ h=>simp[cw] at h
 | @slice hd b K _ c' o _ hν hc=>
 unfold JB at h;split at h
 case h_2=>cases h
 rename_i nn ww tyy XD ho hcu Xm;simp only at ho;subst ho;have V8:cap=lw:=aaX hcu;have VU:=hc.2 hcap;rw[V8,aej,abZ] at VU;unfold S6 at Xm;split at Xm
 case h_2=>cases Xm
 rename_i nn' tr ty' ww' hb;simp only[de,df] at Xm;obtain⟨e1,e2,e3⟩:=Xm;subst e1;subst e2;subst e3;simp only at hb;obtain⟨c,ty2,fz,hw,YM⟩:=hH.cells hb hν;split at h
 case h_2=>cases h
 rename_i hwk hlk hty;have aib:ty'=el:=aaX hty;have ah8:ww'=inf.size:=aaX hwk;have apC:=bI hlk;have Zr:=YM.gr (by omega);rw[ah8] at Zr;have hle:=YM.le;split at h
 ·rename_i VI;have aja:=bI VI;have:(len+dY y)*inf.size<=K*inf.size:=by omega
  have AT:=ad1 this RW;exact zx hH ht hu hi (.slice 0 len hν hc) hy U0 Vc (by omega) h
 ·rename_i VI;have aja:=lB VI;split at h
  case h_2=>cases h
  rename_i At hold;have O_:jl (cM H hd none) n inf.size len (dY y) el At new=.val v H' n':=by simpa using h
  have hn':ν n=none:=by
   unfold jl at O_;cases O_;exact hn n (aaI _) (by omega)
  by_cases AT:len+dY y<=c'
  ·obtain⟨UM,hl,hlen,hS,-,-⟩:=mO hH hu hy U0;obtain⟨XQ,Vo,WK,-,-,WI⟩:=mO hH ht (.slice 0 len hν hc) hold;have hS:=hS Vc;have Wu:(len+dY y)*inf.size<=c.size:=by
    rw[Zr];exact ab0 _ (by omega)
   have L_:∀j,j<UM.length->(w.cell? ⟨b,0+len*inf.size+j,none⟩).isSome=true:=λ j hj=>by
    rw[mM hw,abn (by rw[hlen] at hj;rw[abX] at Wu;omega)];rfl
   have ZH:∀j,j<UM.length->w.frozen? ⟨b,0+len*inf.size+j,none⟩=false:=λ j hj=>by
    obtain⟨lo,hi⟩:=fz;have:=YM.fz;cases this;simp[World.frozen?,hw]
   have f_:=run_append_room_src (P:=P) w t u ty el inf ht hi b 0 len c' y' (dY y) UM hS AT L_ ZH;obtain⟨c2,e1,e2,e3⟩:=mh b UM (0+len*inf.size) w hw;unfold jl at O_;cases O_;have aju:HR ν (cM H hd none) F (w.setCells b (0+len*inf.size) UM):=hH.del' hb rfl hν (λ k hk=>iw b _ _ _ _ hk);refine⟨ν.upd n b K,_,_,f_,?_,.upd,?_,iy _ _ _ _⟩
   ·exact .slice _ _ cf ⟨λ e=>by unfold lw at e;omega,λ e=>by omega⟩
   ·refine aju.add hn' e1 ?_ (by rw[ky];rfl) (λ x hx=>hH.apt _ _ _ _ hb hν x hx) (λ k b' K' hk e=>?_)
    ·rw[ky];have afr:∀i,i<len*inf.size->c[i]?=XQ[i]?:=λ i hi=>by
      have ZC:dY (Value.slice (some ⟨hd,0,none⟩) len cap)=len:=rfl;rw[ZC] at WK WI;have ZL:((c.toList.drop 0).take (len*inf.size)).length=len*inf.size:=by simp;omega
      have h2:=run_firstCells_some (P:=P) w inf.size len ⟨b,0,none⟩ len c' ((c.toList.drop 0).take (len*inf.size)) ZL (λ j u hj=>by
       rw[nY,mM hw];have Xa:=(bt.1 hj).1;rw[ZL] at Xa;rw[acb Xa,abd] at hj;simpa using hj)
      rw[h2] at WI;simp only[Result.ok.injEq,and_true] at WI;have h3:XQ=(c.toList.drop 0).take (len*inf.size):=by
       have:=congrArg Array.toList WI;simpa using this.symm
      rw[h3,acb hi];simp
     have ZC:dY (Value.slice (some ⟨hd,0,none⟩) len cap)=len:=rfl;rw[ZC] at WK;have hlo:At.length=len*inf.size:=by rw[<- WK,Vo.length]
     have hln:new.length=dY y*inf.size:=by rw[<- hlen,hl.length]
     refine⟨YM.ty.trans aib,?_,YM.fz,λ i hi=>?_,λ _=>by rw[e2,Zr]⟩
     ·rw[e2,aaK,hlo,hln,<- abX];exact Wu
     ·have hi2:i<(len+dY y)*inf.size:=by rw[aaK,hlo,hln,<- abX] at hi;exact hi
      obtain⟨v',g1,g2⟩:=(Vo.append hl).get (aaP hi);refine⟨v',?_,by rw[mg hi];exact g2⟩;rw[e3 i (by omega),<- g1]
      by_cases h1:i<len*inf.size
      ·rw[dif_neg (by omega),afr i h1,aaQ (by omega)]
      ·rw[dif_pos ⟨by omega,by rw[hlen];rw[abX] at hi2;omega⟩,aaR (by omega),WK];rw[<- aaP];congr 1;omega
    ·rw[dF] at hk;split at hk
     ·cases hk
     ·rename_i DO;exact DO (hH.inj _ _ _ _ _ _ _ hb hk hν e)
  ·exact vj hH ht hu hi hz XV RW (.slice 0 len hν hc) hy U0 Vc hold (by omega) Y2 Ye hn' (λ ν' w' h'=>h'.del hd) O_
def HEq(H H':AH):Prop:=∀h,bP H' h=bP H h\/∃n t t' ty w ro,bP H h=some (.cells n t ty w ro)/\bP H' h=some (.cells n t' ty w ro)/\∀i,i<n->cN t' i=cN t i
theorem HR.heq(h:HR ν H F w)(e:HEq H H'):HR ν H' F w:=by
 have back:∀k b,bP H' k=some b->∃b0,bP H k=some b0/\∀K o,OR ν K b0 o->OR ν K b o:=λ k b hk=>by
  rcases e k with e1|⟨n,t,t',ty,wd,ro,e1,e2,e3⟩
  ·rw[e1] at hk;exact⟨b,hk,λ _ _ h=>h⟩
  ·rw[e2] at hk;cases hk;refine⟨_,e1,λ K o ho=>?_⟩;cases o with
   |cells c ty' fz=>
    have ho:CR ν K n t ty wd c ty' fz:=ho;exact(⟨ho.ty,ho.le,ho.fz,λ i hi=>by obtain⟨v',g1,g2⟩:=ho.get i hi;exact⟨v',g1,by rw[e3 i hi];exact g2⟩,ho.gr⟩:CR ν K n t' ty wd c ty' fz)
   |_=>exact ho
 refine⟨λ k b hk=>?_,λ h₁ h₂ b₁ b₂ r K₁ K₂ g1 g2=>?_,h.frm,λ k b r K hk=>?_⟩
 ·obtain⟨b0,g1,g2⟩:=back k b hk;obtain⟨r,K,o,g3,g4,g5⟩:=h.blk k b0 g1;exact⟨r,K,o,g3,g4,g2 K o g5⟩
 ·obtain⟨c1,d1,-⟩:=back _ _ g1;obtain⟨c2,d2,-⟩:=back _ _ g2;exact h.inj _ _ _ _ _ _ _ d1 d2
 ·obtain⟨b0,g1,g2⟩:=back k b hk;exact h.apt k b0 r K g1
theorem gI(t:Tr Value):∀ (k i:Nat),(gZ t i k).length=k
 |0,_=>rfl
 |k+1,i=>by simp[gZ,gI t k]
theorem vk(t:Tr Value):∀ (k i j:Nat),j<k->(gZ t i k)[j]?=some (cN t (i+j))
 |0,_,_,h=>absurd h (by omega)
 |k+1,i,j,h=>by
  cases j with
  |zero=>simp[gZ]
  |succ j=>simp only[gZ,abA];rw[vk t k (i+1) j (by omega)];congr 2;omega
theorem JV(tr:Tr Value)(i:Nat)(new:List Value)(el:TypeId)(k:Nat):JC tr i new el k=.cells (i+new.length) (kQ tr i new) el k false:=by
 unfold JC;split <;> rename_i h <;> rw[h,d9]
theorem FV{len add:Nat}{new:List Value}{v:Value}(h:uW H n k len add cap ad el new=some (.val v H' n')):∃H0,JB H n k len add cap ad el new=some (.val v H0 n')/\HEq H0 H':=by
 unfold uW at h;split at h
 case h_2=>cases h
 rename_i nn tr ty w XD ho hcu hb;split at h
 case h_2=>cases h
 rename_i h1 h2 h3;have Xm:S6 H ad=some (nn,w,ty):=by unfold S6;rw[hb]
 split at h
 ·rename_i VI;refine⟨H',?_,λ h=>.inl rfl⟩;unfold JB;rw[XD,ho,hcu,Xm];simp only[h1,h2,h3,VI];exact h
 ·rename_i VI;cases h;refine⟨cM (cM H ad.block none) n (some (wK (gZ tr 0 (len*k)++new) el k)),?_,λ h=>?_⟩
  ·unfold JB;rw[XD,ho,hcu,Xm];simp only[h1,h2,h3,VI,qQ,XD,hb,ho,abp];rfl
  ·by_cases hh:n=h
   ·refine .inr ⟨(gZ tr 0 (len*k)++new).length,dM undef (gZ tr 0 (len*k)++new) 0 .lf,kQ tr (len*k) new,el,k,false,by rw[dF,if_pos hh,ky],?_,λ i hi=>?_⟩
    ·rw[dF,if_pos hh,JV,aaK,gI]
    ·rw[mg hi,sY];rw[aaK,gI] at hi;split
     ·rename_i hj;rw[List.getElem_append_right (by rw[gI];omega)];congr 1;rw[gI]
     ·rename_i hj;have hi2:i<len*k:=by omega
      rw[List.getElem_append_left (by rw[gI];exact hi2)];have:=vk tr (len*k) 0 i hi2;rw[abp] at this;rw[aaP (by rw[gI];exact hi2)] at this;exact(abL this).symm
   ·exact .inl ((dF).trans ((if_neg hh).trans ((if_neg hh).symm.trans (dF).symm)))
theorem JW{z:List Value}{len:Nat}{new:List Value}{v:Value}(hH:HR ν H F w)(ht:P.underlying t=some (.slice el))(hu:P.underlying u=some (.slice e'))(hi:P.info? el=some inf)(hz:lz P el=some z)(XV:z.length=inf.size)(RW:0<inf.size)
  (hx:VRi ν (.slice (some ad) len cap) x') (hy:VRi ν y y') (U0:qQ H inf.size y=some new) (Vc:kj new=true) (Y2:len+dY y<1000000) (Ye:inf.bytes<1000001) (hcap:lw<=cap) (hn:Fr ν n n') (h:uW H n inf.size len (dY y) cap ad el new=some (.val v H' n')) :
  Effi P ν F n (Builtin.append_ #[t,u] ty #[x',y']) w v H' n':=by
 obtain⟨H0,h1,h2⟩:=FV h;obtain⟨ν',a,b,g1,g2,g3,g4,g5⟩:=MU hH ht hu hi hz XV RW hx hy U0 Vc Y2 Ye hcap hn h1;exact⟨ν',a,b,g1,g2,g3,g4.heq h2,g5⟩
theorem MW{x:Value}{v:Value}(hH:HR ν H F w)(ht:P.underlying t=some (.slice el))(hu:P.underlying u=some (.slice e'))(hx:VRi ν x x')(hy:VRi ν y y')(hn:Fr ν n n')(h:yY P H n el x y=some (.val v H' n')) :
  Effi P ν F n (Builtin.append_ #[t,u] ty #[x',y']) w v H' n':=by
 unfold yY at h;split at h
 case h_2=>cases h
 rename_i inf z hi hz;split at h
 case h_2=>cases h
 rename_i k by_ base len cap hk hby;have hk:inf.size=k+1:=hk;have hby:inf.bytes=by_+1:=hby;split at h
 case h_2=>cases h
 rename_i new U0 XV Y2 Ye;rw[<- hk] at U0 XV h;have aeM:z.length=inf.size:=by rw[d9] at XV;exact aaX XV
 have af9:=dN Y2;have aqo:=dN Ye;split at h
 ·rename_i Vc hcu;have ajx:=dN hcu;have Zw:∃BY,x'=.slice BY len cap/\VRi ν (.slice base len cap) (.slice BY len cap):=by
   cases hx with
   |atom _ h=>exact⟨_,rfl,.atom _ h⟩
   |slice o _ hν hc=>obtain rfl:=hc.1 ajx;exact⟨_,rfl,.slice o _ hν hc⟩
  obtain⟨BY,rfl,hr⟩:=Zw;split at h
  ·rename_i VI;exact zx hH ht hu hi hr hy U0 Vc (bI VI) h
  ·rename_i VI;split at h
   ·rename_i At hold;have O_:jl H n inf.size len (dY y) el At new=.val v H' n':=by simpa using h
    have hn':ν n=none:=by
     have hv2:=O_;unfold jl at hv2;cases hv2;exact hn n (aaI _) (by omega)
    exact vj hH ht hu hi hz aeM (by omega) hr hy U0 Vc hold (lB VI) af9 (by omega) hn' (λ _ _ h=>h) O_
   ·cases h
 ·rename_i Vc hcu;split at h
  ·exact JW hH ht hu hi hz aeM (by omega) hx hy U0 Vc af9 (by omega) (lA hcu) hn h
  ·cases h
 ·cases h
end ap
end
section
variable {F:Fence} {P:Program} {Q:Exit->Act->World->Prop} {a:Act} {fn:Fn} {n n':Nat} {o:Oper} {t ty:TypeId} {w:World}
inductive TgR(ν:Nu):Target->Target->Prop
 |fn {f f':Fn} {c c':Array Value}:FnR ν f f'->LR ν c.toList c'.toList->TgR ν (.fn f c) (.fn f' c')
 |coll {h b K:Nat}:ν h=some (b,K)->TgR ν (.collected h) (.collected b)
structure DR(ν:Nu)(d d':Deferred):Prop where
 t:TgR ν d.target d'.target
 a:LR ν d.args.toList d'.args.toList
def Ua(P:Program)(ν:Nu)(F:HL)(n:Nat)(s:Sem Next)(w:World):AN->Prop
 | .val v H' n'=>∃ν' v' w' r,s.run P w=.ok r w'/\(r=.value v'\/(r=.skip/\v'=undef))/\VRi ν' v v'/\Ext ν ν' n n'/\HR ν' H' F w'/\Below 0 w w'
 | .ent f args=>∃iS,s.run P w=.ok (.enter f ⟨iS⟩) w/\LR ν args iS
 | .rnd l args=>∃b K iS,ν l=some (b,K)/\LR ν args iS/\s.run P w=(Instr.yield b ⟨iS⟩).run P w
 | .dfr d=>∃d',s.run P w=.ok (.defer d') w/\DR ν d d'
 | .rcv=>s.run P w=.ok .recover w
section ap
variable {ν ν':Nu} {P:Program} {G N:Nat} {T T':Tr Value} {a:Act} {H H':AH} {F:HL} {w w':World}
theorem TgR.mono{t t':Target}(h:TgR ν t t')(hl:ν.Le ν'):TgR ν' t t':=by
 cases h with
 |fn h1 h2=>exact .fn (h1.mono hl) (h2.mono hl)
 |coll h=>exact .coll (hl _ _ h)
theorem DR.mono{d d':Deferred}(h:DR ν d d')(hl:ν.Le ν'):DR ν' d d':=⟨h.t.mono hl,h.a.mono hl⟩
theorem s0{f c:Array Value}{v':Value}(h:VRi ν (.func fn f c) v'):∃fn' f' c',v'=.func fn' f' c'/\FnR ν fn fn'/\LR ν f.toList f'.toList/\LR ν c.toList c'.toList:=by
 cases h with
 |atom _ h=>simp[cw] at h
 |func h1 h2 h3 h4 h5=>exact⟨_,_,_,rfl,h1,.of_arr h2 h3,.of_arr h4 h5⟩
theorem JX{u el:TypeId}{x x' y y':Value}{v:Value}(hH:HR ν H F w)(ht:P.underlying t=some (.slice el))(hx:VRi ν x x')(hy:VRi ν y y')(h:yZ P H n el x y=some (.val v H' n')) :
  Effi P ν F n (Builtin.copy_ #[t,u] ty #[x',y']) w v H' n':=by
 unfold yZ at h;split at h
 case h_2=>cases h
 rename_i k hk;split at h
 case h_2=>cases h
 rename_i ad dl cx b sl cc;split at h
 case h_2=>cases h
 rename_i vs XD U0;split at h
 case h_2=>cases h
 rename_i H2 hp;cases h;cases hx with
 |atom _ h=>simp[cw] at h
 | @slice hd bb K _ c' o _ hν hc=>
 have hy2:∃b',y'=.slice b' sl (match y' with | .slice _ _ c=>c|_=>0)/\∀c,VRi ν (.slice b (Nat.min sl dl) c) (.slice b' (Nat.min sl dl) c)\/b≠none:=by
  cases hy with
  |atom _ h=>cases b with
   |none=>exact⟨none,rfl,λ c=>.inl (.atom _ rfl)⟩
   |some _=>simp[cw] at h
  |slice o n hν hc=>exact⟨_,rfl,λ c=>.inr (by simp)⟩
 have hfc:∃UH,LR ν vs UH/\(Builtin.firstCells k (Nat.min sl dl) y').run P w=.ok UH.toArray w:=by
  have hyy:∃yy,VRi ν (.slice b (Nat.min sl dl) cc) yy/\(Builtin.firstCells k (Nat.min sl dl) y').run P w=(Builtin.firstCells k (Nat.min sl dl) yy).run P w:=by
   cases hy with
   |atom _ h=>cases b with
    |none=>exact⟨.slice none (Nat.min sl dl) cc,.atom _ rfl,rfl⟩
    |some _=>simp[cw] at h
   |slice o n hν hc=>exact⟨_,.slice o _ hν hc,rfl⟩
  obtain⟨yy,h1,h2⟩:=hyy;obtain⟨UH,q1,q2,q3,q4,q5⟩:=mO (u:=t) hH ht h1 U0;exact⟨UH,q1,by rw[h2];exact q5⟩
 obtain⟨UH,hl,hfc⟩:=hfc;obtain⟨q1,q2,q3,q4,q5⟩:=pT hH hν hl hp;obtain⟨b',hy3,-⟩:=hy2;have iN:=run_storeCells_cells (P:=P) bb o UH 0 w (by simpa using q1) (by simpa using q2) q3;refine⟨ν,.int .i64 ((Nat.min sl dl:Nat):Int),_,?_,.atom _ rfl,.refl _ _,q4,q5⟩;have hlen:∀W,(Builtin.lenOf y').run P W=.ok sl W:=λ W=>by rw[hy3];rfl
 have hs:=eh hk w;unfold Builtin.copy_;simp only[ab9,acd,abA];rw[aa8,aG ht];simp only[aa7,aa8,hlen,hs,hfc];simp only[abZ] at iN;rw[iN];rfl
theorem iO{f:FuncId}{args:Array Value}(h:sL P f=true)(w:World):(callFunc f args).run P w=.ok (.enter f args) w:=by
 unfold sL at h;split at h
 ·rename_i fn hf;rw[aaW] at h;obtain⟨h1,h2⟩:=h;unfold callFunc;rw[oE];simp only[hf];rw[if_neg (by simpa using h1),if_neg (by cases hb:fn.body <;> simp[hb] at h2 ⊢)];rfl
 ·cases h
theorem oc{c:Call}{f:Operand}{f1 c1:Array Value}{ρ:Operand->Value}(hc:c.callee=.value f)(hf:ρ f=.func fn f1 c1)(w:World):(resolve ρ c ty).run P w=.ok { target:=.fn fn c1,args:=f1++c.args.map ρ } w:=by
 unfold resolve;rw[hc];simp only[hf,Deferred.ofValue];rfl
theorem JY{c:Call}{x:AN}(h:JD P H n c T=some x):∃v H' n',x=.val v H' n':=by
 unfold JD yY uW sK jl at h
 repeat' split at h
 all_goals first
  | (cases h;done)
  | (cases h;exact⟨_,_,_,rfl⟩)
theorem FW{c:Call}{x:AN}(h:za P H n c T=some x):∃v H' n',x=.val v H' n':=by
 unfold za yZ at h
 repeat' split at h
 all_goals first
  | (cases h;done)
  | (cases h;exact⟨_,_,_,rfl⟩)
theorem Dq{s:Sem Value}{s':Sem Next}{v:Value}(h:Effi P ν F n s w v H' n')(e:s'.run P w=(do pure (.value (<- s)):Sem Next).run P w):Ua P ν F n s' w (.val v H' n'):=by
 obtain⟨ν',v',w',h1,h2,h3,h4,h5⟩:=h;refine⟨ν',v',w',.value v',?_,.inl rfl,h2,h3,h4,h5⟩;rw[e,aa8,h1];rfl
theorem FX{name:String}{f:FuncId}{v:Value}(h:JE P t name=some f)(w:World):(method (P.types.size+Made.depth) t v name).run P w=.ok (f,v) w:=by
 unfold JE at h;split at h
 case h_2=>cases h
 rename_i i hi Zy;split at h
 case h_2=>cases h
 rename_i m hm;obtain⟨k,hk⟩:∃k,P.types.size+Made.depth=k+1:=⟨_,(Nat.succ_pred_eq_of_pos (dN Zy)).symm⟩;rw[hk];have afR:m.path.toList=[]->(follow m.path.toList t (.val v)).run P w=.ok (t,.val v) w:=λ e=>by rw[e];rfl
 split at h
 ·rename_i g e hp hf hu;cases h;unfold method;rw[aa8,cO hi];simp only[aa7,hm];rw[aa8,afR hp];simp only[aa7,hf];rw[aa8];have:∀wr,(receiverAt t (.val v) true wr).run P w=.ok v w:=λ wr=>by
   unfold receiverAt;rw[aa8,aG hu];rfl
  rw[this];rfl
 ·cases h
 ·rename_i g d hnp hp hf hu;cases h;unfold method;rw[aa8,cO hi];simp only[aa7,hm];rw[aa8,afR hp];simp only[aa7,hf];rw[aa8];have:∀wr,(receiverAt t (.val v) false wr).run P w=.ok v w:=λ wr=>by
   unfold receiverAt;rw[aa8,aG hu];simp only[aa7];cases d <;> first|rfl|exact(hnp _ rfl).elim
  rw[this];rfl
 ·cases h
theorem MX{x:AN}(hH:HR ν H F w)(h:nW P o T H n=some x){l:List Operand}(hl:jk o.op=some l)(dO:OK ν T a l)(hn:∀v H' n',x=.val v H' n'->Fr ν n n'):Ua P ν F n (execOp a.eval o) w x:=by
 unfold nW at h;split at h
 ·rename_i t p y ho;rw[ho] at hl;simp only[jk,bW,de] at hl;subst hl;have hp:=dO p (by simp);split at h
  ·rename_i ad e;split at h
   ·rename_i H2 hs;cases h;rw[e] at hp;generalize hu:a.eval p=u at hp;have hp2:=hp;cases hp with
    |atom _ h=>simp[cw] at h
    |ptr o h=>
     obtain⟨w',q1,q2,q3⟩:=FU hH hp2 (dO y (by simp)) hs;refine⟨ν,undef,w',.skip,?_,.inr ⟨rfl,rfl⟩,aaA,.refl _ _,q2,q3⟩;simp[execOp,ho,Instr.storeAt,Instr.sureAddr,hu,aa8,q1]
   ·cases h
  ·cases h
 ·rename_i t m k y ho;rw[ho] at hl;simp only[jk,bW,de] at hl;subst hl;split at h
  ·rename_i H2 hs;cases h;obtain⟨hp,w',q1,q2,q3⟩:=Dp hH (dO m (by simp)) (dO y (by simp)) hs;have hk:=(dO k (by simp)).plain_eq hp;refine⟨ν,undef,w',.skip,?_,.inr ⟨rfl,rfl⟩,aaA,.refl _ _,q2,q3⟩;simp[execOp,ho,hk,aa8,q1]
  ·cases h
 ·rename_i t m k y ho;rw[ho] at hl;simp only[jk,bW,de] at hl;subst hl;split at h
  ·rename_i H2 hs;cases h;obtain⟨hp,w',q1,q2,q3⟩:=Dp hH (dO m (by simp)) (dO y (by simp)) hs;have hk:=(dO k (by simp)).plain_eq hp;refine⟨ν,undef,w',.skip,?_,.inr ⟨rfl,rfl⟩,aaA,.refl _ _,q2,q3⟩;simp[execOp,ho,hk,aa8,q1]
  ·cases h
 ·rename_i c ho;split at h
  case h_2=>cases h
  rename_i f hc;split at h
  case h_2=>cases h
  rename_i fn first captured e
  cases h;rw[ho] at hl;simp only[jk,hc,de] at hl;subst hl;have hf:=dO f (by simp);rw[e] at hf;obtain⟨fn',f',c',e',r1,r2,r3⟩:=s0 hf;have ha:=md (l:=c.args.toList) (λ x hx=>dO x (aaE _ hx));refine⟨{ target:=.fn fn' c',args:=f'++c.args.map a.eval },?_,⟨.fn r1 r3,?_⟩⟩
  ·unfold Go.execOp;rw[ho];simp only;rw[aa8,oc hc e'];rfl
  ·simpa using r2.append ha
 ·rename_i c ho;split at h
  ·rename_i f hc;have Vo:l=f::c.args.toList:=by
    rw[ho] at hl;simp only[jk,bW,hc,de] at hl;rw[<- hl];rfl
   split at h
   ·rename_i x' VB;cases h;subst Vo;have hf:=dO f (by simp);have ha:=md (l:=c.args.toList) (λ x hx=>dO x (aaE _ hx));have f_:∀fn' f' c',a.eval f=.func fn' f' c'->(execOp a.eval o).run P w=(invoke (.fn fn' c') (f'++c.args.map a.eval)).run P w:=λ fn' f' c' e'=>by
     unfold Go.execOp;rw[ho];simp only;rw[aa8,oc hc e'];rfl
    unfold rv at VB;split at VB
    case h_2=>cases VB
    rename_i fn first captured e
    rw[e] at hf;obtain⟨fn',f',c',e',r1,r2,r3⟩:=s0 hf;split at VB
    ·split at VB
     ·rename_i hb;cases VB;cases r1;refine⟨f'.toList++(c.args.toList.map a.eval++c'.toList),?_,r2.append (ha.append r3)⟩;rw[f_ _ _ _ e'];show (callFunc _ (f'++c.args.map a.eval++c')).run P w=_;rw[iO hb];congr 2;apply Array.ext';simp
     ·cases VB
    ·rename_i lp;split at VB
     ·rename_i hfi;cases VB;cases r1 with
      | @yield _ b K hν=>
      rw[hfi] at r2;refine⟨b,K,_,hν,ha,?_⟩;rw[f_ _ _ _ e'];have hf0:f'=#[]:=by
       apply Array.ext';generalize f'.toList=q at r2;cases r2;rfl
      subst hf0;show (Instr.yield b (#[]++c.args.map a.eval)).run P w=_;congr 2;apply Array.ext';simp
     ·cases VB
    ·cases VB
   ·split at h
    ·rename_i v hv;cases h;have YI:bW o.op=some l:=by
      rw[ho] at hl ⊢;exact hl
     obtain⟨v',r,e⟩:=pR hv YI dO;exact⟨ν,v',w,_,e w,.inl rfl,r,.refl _ _,hH,go _ _⟩
    ·cases h
  ·rename_i b hc;split at h
   ·obtain⟨v,H2,n2,rfl⟩:=JY h;have Yc:=hn v H2 n2 rfl;unfold JD at h;split at h
    case h_2=>cases h
    rename_i cl x y t u;simp only at hc;subst hc;split at h
    case h_2=>cases h
    rename_i el he hs;have Vo:l=[x,y]:=by
     rw[ho] at hl;simp only[jk,bW,de] at hl;rw[<- hl];rfl
    subst Vo;have hu:∃e',P.underlying u=some (.slice e'):=by
     unfold RS at hs;split at hs
     ·rename_i e1;exact⟨_,e1⟩
     ·cases hs
    obtain⟨e',hu⟩:=hu;have hr:∃cs,(resolve a.eval ⟨.builtin .append,⟨[x,y]⟩,⟨[t,u]⟩⟩ o.type).run P w=.ok { target:=.builtin .append #[t,u] o.type cs,args:=#[a.eval x,a.eval y] } w:=by
     refine⟨(⟨[x,y]⟩:Array Operand).map (λ | .const _=>true|_=>false),?_⟩;unfold resolve;have e:(⟨[x,y]⟩:Array Operand).map a.eval=#[a.eval x,a.eval y]:=by simp
     simp only[e];rfl
    obtain⟨cs,hr⟩:=hr;refine Dq (MW (ty:=o.type) hH (mN he) hu (dO x (by simp)) (dO y (by simp)) Yc h) ?_;unfold Go.execOp;rw[ho];simp only;rw[aa8,hr];rfl
   ·obtain⟨v,H2,n2,rfl⟩:=FW h;unfold za at h;split at h
    case h_2=>cases h
    rename_i cl x y t u;simp only at hc;subst hc;split at h
    case h_2=>cases h
    rename_i el he;have Vo:l=[x,y]:=by
     rw[ho] at hl;simp only[jk,bW,de] at hl;rw[<- hl];rfl
    subst Vo;have hr:∃cs,(resolve a.eval ⟨.builtin .copy,⟨[x,y]⟩,⟨[t,u]⟩⟩ o.type).run P w=.ok { target:=.builtin .copy #[t,u] o.type cs,args:=#[a.eval x,a.eval y] } w:=by
     refine⟨(⟨[x,y]⟩:Array Operand).map (λ | .const _=>true|_=>false),?_⟩;unfold resolve;have e:(⟨[x,y]⟩:Array Operand).map a.eval=#[a.eval x,a.eval y]:=by simp
     simp only[e];rfl
    obtain⟨cs,hr⟩:=hr;refine Dq (JX (u:=u) (ty:=o.type) hH (mN he) (dO x (by simp)) (dO y (by simp)) h) ?_;unfold Go.execOp;rw[ho];simp only;rw[aa8,hr];rfl
   ·cases h;show (execOp a.eval o).run P w=_;unfold Go.execOp;rw[ho];simp only;rw[aa8];unfold resolve;rw[hc];rfl
   ·cases h
  ·rename_i recv name hc;have Vo:l=recv::c.args.toList:=by
    rw[ho] at hl;simp only[jk,bW,hc,de] at hl;rw[<- hl];rfl
   subst Vo;split at h
   case h_2=>cases h
   rename_i t v e;split at h
   case h_2=>cases h
   rename_i f hf;split at h
   case h_2=>cases h
   rename_i hB;cases h;have hr:=dO recv (by simp);rw[e] at hr;have ha:=md (l:=c.args.toList) (λ x hx=>dO x (aaE _ hx));generalize hu:a.eval recv=u at hr;cases hr with
   |atom _ h=>simp[cw] at h
   | @iface _ v' _ hv=>
   refine⟨v'::c.args.toList.map a.eval,?_,.cons hv ha⟩;unfold Go.execOp;rw[ho];simp only;rw[aa8];have h1:(resolve a.eval c o.type).run P w=.ok { target:=.fn (.method name) #[],args:=#[.iface t v']++c.args.map a.eval } w:=by
    unfold resolve;rw[hc];simp only[hu];rfl
   rw[h1];simp only[aa7];have h2:(invoke (.fn (.method name) #[]) (#[.iface t v']++c.args.map a.eval)).run P w=(callMethod (.iface t v') name (c.args.map a.eval)).run P w:=by
    unfold invoke;have e1:(#[Value.iface t v']++c.args.map a.eval)[0]?=some (.iface t v'):=by rw[ach (by simp)];rfl
    have e2:(#[Value.iface t v']++c.args.map a.eval).extract 1 (#[Value.iface t v']++c.args.map a.eval).size=c.args.map a.eval:=by
     apply Array.ext';simp;rw[abF (by simp)]
    simp only[e1,e2]
   rw[h2];unfold callMethod;simp only;rw[oE,aa8,FX hf];simp only[aa7];rw[iO hB];congr 2;apply Array.ext';simp
 ·cases h
theorem mP{o:Op}{l:List Operand}(h:jk o=some l)(hd:∀c,o≠ .defer c):bW o=some l:=by
 cases o <;> first|exact h|exact(hd _ rfl).elim
end ap
def Glb(ν:Nu)(G:Nat):Prop:=∀k,k<G->∃K,ν k=some (k,K)
def JZ(ν:Nu)(v:Value)(n n':Nat)(H':AH)(F:HL)(w:World)(e:Ending)(w':World):Prop :=
 ∃ν' v',e=.returned v'/\VRi ν' v v'/\Ext ν ν' n n'/\HR ν' H' F w'/\Below 0 w w'
inductive DsR(ν:Nu):List Deferred->List Deferred->Prop
 |nil:DsR ν [] []
 |cons {d d':Deferred} {l l':List Deferred}:DR ν d d'->DsR ν l l'->DsR ν (d::l) (d'::l')
inductive RR(ν:Nu):Option Nat->Option Nat->Prop
 |none:RR ν none none
 |some {l b K:Nat}:ν l=some (b,K)->RR ν (some l) (some b)
def Ex.out:Ex->Exit
 | .normal=>.normal
 | .exit id=>.exit id
 | .ret=>.ret
structure SR(ν:Nu)(G N:Nat)(s:St)(F:HL)(a:Act)(w:World):Prop where
 g:Glb ν G
 t:TRel ν N s.T a.tmps
 d:DsR ν s.D a.defers
 h:HR ν s.H F w
def Ds(F:Fence)(n:Nat)(P:Program)(c:Code)(Q:Exit->Act->World->Prop)(a:Act)(w:World):Prop :=
 ∀ (b:Frame) (k:List Item) (cs:List Frame),b.roundOf=F.round->F.fn b.fn->F.room (cs.length+1+n)->
  ∃e a' w',Q e a' w'/\ArrivesIn (Machine.fenced P F) P (lone (b.atR a (.code c:: .inLoop c::k)) cs w) b k cs e a' w'
theorem Cc{c:Code}(h:Ds F n P c Q a w):(Code.loop c).wpIn F n P Q a w:=by
 intro b k cs Vy hb hr;obtain⟨e,a',w',hq,o_⟩:=h b k cs Vy hb hr;exact⟨e,a',w',hq,.of_steps (.one (fenced_calm hb hr rfl) stepR_loop) o_⟩
theorem zy{c:Code}(h:c.wpIn F n P (Exit.then (Ds F n P c Q) Q) a w):Ds F n P c Q a w:=by
 intro b k cs Vy hb hr;obtain⟨e,a₁,w₁,hq,o_⟩:=h b (.inLoop c::k) cs Vy hb hr;cases e with
 |normal=>
  obtain⟨e₂,a₂,w₂,Xs,Vq⟩:=hq b k cs Vy hb hr;exact⟨e₂,a₂,w₂,Xs,.of_steps (StepsIn.trans o_ (.one (fenced_calm hb hr rfl) stepR_inLoop)) Vq⟩
 |exit id=>exact⟨_,a₁,w₁,hq,.pass (x:=.inLoop c) rfl (λ _ _=>.inl (by simp)) o_⟩
 |goto l=>exact⟨_,a₁,w₁,hq,.pass (x:=.inLoop c) rfl (λ _ _=>.inl (by simp)) o_⟩
 |ret=>exact⟨_,a₁,w₁,hq,.pass (x:=.inLoop c) rfl (λ _ _=>.inl (by simp)) o_⟩
 |panic ch=>exact⟨_,a₁,w₁,hq,.pass (x:=.inLoop c) rfl (λ _ _=>.inl (by simp)) o_⟩
 |outgrown=>exact⟨_,a₁,w₁,hq,.pass (x:=.inLoop c) rfl (λ _ _=>.inl (by simp)) o_⟩
def jS(P:Program)(G:Nat):Task->Rs->Prop
 | .fn f args H n,.fn v H' n'=>n<=n'/\∀ν F w iS,Glb ν G->Fr ν n n'->HR ν H F w->LR ν args iS->Calls P f ⟨iS⟩ w (JZ ν v n n' H' F w)
 | .rnd l T N as0 bo H n,.fn v H' n'=>n<=n'/\∀ν F w b K tm f r',Glb ν G->ν l=some (b,K)->TRel ν N T tm->Fr ν n n'->HR ν H F w->RoundIn (Wr r') 0 P b f tm as0 bo w (JZ ν v n n' H' F w)
 | .code r N c s,.cd e s'=>s.n<=s'.n/\∀ν F a w r' Q,RR ν r r'->SR ν G N s F a w->Fr ν s.n s'.n->(∀ν' a' w',Ext ν ν' s.n s'.n->SR ν' G N s' F a' w'->Below 0 w w'->Q e.out a' w')->c.wpIn (Wr r') 0 P Q a w
 | .loop r N c s,.cd e s'=>s.n<=s'.n/\∀ν F a w r' Q,RR ν r r'->SR ν G N s F a w->Fr ν s.n s'.n->(∀ν' a' w',Ext ν ν' s.n s'.n->SR ν' G N s' F a' w'->Below 0 w w'->Q e.out a' w')->Ds (Wr r') 0 P c Q a w
 | .dfn f args H n,.fn v H' n'=>n<=n'/\∀ν F w iS,Glb ν G->Fr ν n n'->HR ν H F w->LR ν args iS->CallsDIn (Wr none) 0 P f ⟨iS⟩ .returning w (λ e u' w'=>u'=.returning/\JZ ν v n n' H' F w e w')
 |_,_=>True
def kY(P:Program)(G:Nat)(ih:Task->Option Rs):Prop:=∀t res,ih t=some res->jS P G t res
section ops
variable {ν ν':Nu} {P:Program} {G N:Nat} {T T':Tr Value} {a:Act} {H H':AH} {F:HL} {w w':World} {r r':Option Nat} {ih:Task->Option Rs}
theorem Glb.mono(h:Glb ν G)(hl:ν.Le ν'):Glb ν' G:=λ k hk=>let ⟨K,e⟩:=h k hk;⟨K,hl _ _ e⟩
theorem DsR.mono{l l':List Deferred}(h:DsR ν l l')(hl:ν.Le ν'):DsR ν' l l':=by
 induction h with
 |nil=>exact .nil
 |cons h _ ih=>exact .cons (h.mono hl) ih
theorem RR.mono(h:RR ν r r')(hl:ν.Le ν'):RR ν' r r':=by
 cases h with
 |none=>exact .none
 |some h=>exact .some (hl _ _ h)
theorem HR.loop(h:HR ν H F w){k:Nat}{st:LoopState}{pend:Option Code}{T:Tr Value}{N:Nat}{ps:Array Tmp}{as0 bo:Code}{d r K:Nat}(hk:bP H k=some (.loop st pend T N ps as0 bo d))(hr:ν k=some (r,K)) :
  ∃lp:Loop,w.heap[r]?=some (.loop lp)/\lp.state=st/\lp.pending=pend/\TRel ν N T lp.tmps/\lp.params=ps/\lp.assign=as0/\lp.body=bo/\∃K',ν d=some (lp.defers,K'):=by
 obtain⟨r',K',o,h1,h2,h3⟩:=h.blk _ _ hk;rw[hr] at h1;cases h1;unfold OR at h3;split at h3
 ·rename_i e1;cases e1
 ·rename_i e1;cases e1
 ·rename_i e1;cases e1;exact⟨_,h2,h3⟩
 ·rename_i e1;cases e1
 ·exact h3.elim
theorem hO{l:Nat}{lp:Loop}(h:w.heap[l]?=some (.loop lp)):(Instr.getLoop l).run P w=.ok lp w:=by
 unfold Instr.getLoop;rw[aa8];have:(getObj l).run P w=.ok (.loop lp) w:=by
  unfold getObj;rw[ab8];simp only[h];rfl
 rw[this];rfl
theorem vl:∀ {ps:List Tmp} {vs UH:List Value} {T:Tr Value} {tm:Array Value},LR ν vs UH->TRel ν N T tm->Dj N ps=true->TRel ν N (JF ps vs T) ((ps.zip UH).foldl (λ tmps (p:Tmp×Value)=>tmps.setIfInBounds p.1 p.2) tm)
 | [],vs,UH,T,tm,hl,ht,_=>by cases vs <;> exact ht
 |p::ps,[],UH,T,tm,hl,ht,_=>by cases hl;exact ht
 |p::ps,v::vs,UH,T,tm,hl,ht,g_=>by
  cases hl with
  |cons hv hl=>
   rw[Dj] at g_;split at g_
   ·rename_i hp;have h2:=vl (ps:=ps) hl (ht.set (dN hp) hv) g_;exact h2
   ·cases g_
theorem FY{b:Nat}{lp:Loop}{args:List Value}(h:w.heap[b]?=some (.loop lp))(hs:args.length=lp.params.size) :
  (Instr.yield b ⟨args⟩).run P w=.ok (.round b lp.fn ((lp.params.toList.zip args).foldl (λ tmps (p:Tmp×Value)=>tmps.setIfInBounds p.1 p.2) lp.tmps) lp.assign lp.body) w:=by
 unfold Instr.yield;rw[aa8,hO h];simp only[aa7];rw[if_neg (by simp[hs])];have:(Array.foldl (λ (tmps:Array Value) (x:Tmp×Value)=>tmps.setIfInBounds x.1 x.2) lp.tmps (lp.params.zip ⟨args⟩))=((lp.params.toList.zip args).foldl (λ tmps (p:Tmp×Value)=>tmps.setIfInBounds p.1 p.2) lp.tmps):=by
  rw[<- adJ,aec]
 rw[<- this];rfl
def Ub(P:Program)(ν:Nu)(F:HL)(n:Nat)(r r':Option Nat)(a:Act)(w:World)(o:Oper):OpR->Prop
 | .val v H' n'=>Fr ν n n'->∀ (next:Act->World->Prop) (Q:Exit->Act->World->Prop),(∀ν' v' w',VRi ν' v v'->Ext ν ν' n n'->HR ν' H' F w'->Below 0 w w'->next (a.put o.dst v') w')->o.wpIn (Wr r') 0 P a w next Q
 | .dfr d=>r=none/\∀ (next:Act->World->Prop) (Q:Exit->Act->World->Prop),(∀d',DR ν d d'->next ({ a with defers:=d'::a.defers }.put o.dst undef) w)->o.wpIn (Wr r') 0 P a w next Q
theorem J0{c:Call}{x:AN}(ho:o.op=.defer c)(h:Di P G o T H n=some x):∃d,x=.dfr d:=by
 unfold Di at h;split at h
 ·cases h
 split at h
 ·cases h
 rw[ho] at h;simp only[tH,nW,ho] at h;split at h
 ·split at h
  ·cases h;exact⟨_,rfl⟩
  ·cases h
 ·cases h
theorem mQ{x:AN}(dO:∀l,jk o.op=some l->tW G l=true->OK ν T a l)(hH:HR ν H F w)(h:Di P G o T H n=some x)(hn:∀v H' n',x=.val v H' n'->Fr ν n n'):Ua P ν F n (execOp a.eval o) w x:=by
 unfold Di at h;split at h
 ·cases h
 rename_i l hl;split at h
 ·cases h
 rename_i hk;have dO:=dO l hl hk;split at h
 ·rename_i hc;split at h
  ·rename_i v hv;cases h;have Ya:=mP hl (λ c e=>by rw[e] at hc;cases hc);obtain⟨v',r,e⟩:=zo hv Ya dO;exact⟨ν,v',w,_,e w,.inl rfl,r,.refl _ _,hH,go _ _⟩
  ·cases h
 ·rename_i hc;split at h
  ·rename_i v hv;cases h;have Ya:=mP hl (λ c e=>by rw[e] at hc;cases hc);obtain⟨v',r,e⟩:=zu hH hv Ya dO;exact⟨ν,v',w,_,e,.inl rfl,r,.refl _ _,hH,go _ _⟩
  ·cases h
 ·rename_i hc;split at h
  ·rename_i b m hv;cases h;have Ya:=mP hl (λ c e=>by rw[e] at hc;cases hc);obtain⟨h1,h2,o',h3,h4⟩:=Dn hv Ya dO;have afs:ν n=none:=hn _ _ _ rfl n (aaI _) (by omega);exact⟨ν.upd n w.heap.size 0,_,_,_,h4 w,.inl rfl,JS h2 cf,.upd,hH.new afs (h3 0) h1 rfl,⟨rfl,rfl,rfl,by simp,λ k hk=>by omega⟩⟩
  ·cases h
 ·exact MX hH h hl dO hn
theorem wN{v:Value}(h:Di P G o T H n=some (.val v H' n')):n<=n':=by
 have key:nW P o T H n=some (.val v H' n')->n<=n':=by
  intro h;unfold nW rv JD za yY yZ uW sK jl at h
  repeat' split at h
  all_goals first
   | (cases h;done)
   | (cases h;omega)
   | (rename_i hx;simp only[de] at h;subst h;(repeat' (split at hx)) <;> first|(cases hx;done)|(cases hx;omega))
 unfold Di at h;split at h
 ·cases h
 split at h
 ·cases h
 split at h
 ·split at h
  ·cases h;omega
  ·cases h
 ·split at h
  ·cases h;omega
  ·cases h
 ·split at h
  ·unfold PN at h;cases h;omega
  ·cases h
 ·exact key h
theorem wO(AI:kY P G ih){x:OpR}(hg:Glb ν G)(hr:RR ν r r')(dO:∀l,jk o.op=some l->tW G l=true->OK ν T a l)(hH:HR ν H F w)(h:kl P G ih r o T H n=some x):(∀v H' n',x=.val v H' n'->n<=n')/\Ub P ν F n r r' a w o x:=by
 have hA:∀f,o.about P w a.eval=some f->(Wr r').fn f:=λ _ _=>trivial;unfold kl at h;split at h
 ·cases h
 rename_i y hy;have nd:(∀d,y≠ .dfr d)->o.semAt (Wr r').round a.eval=execOp a.eval o:=λ hd=>Oper.semAt_eq _ _ _ λ c e=>by
  obtain⟨d,Xb⟩:=J0 e hy;exact hd d Xb
 split at h
 ·rename_i v H1 n1;cases h;refine⟨λ v H' n' e=>by cases e;exact wN hy,λ Yc next Q hk=>⟨hA,?_⟩⟩;obtain⟨ν',v',w',q,h1,h2,h3,h4,h5,h6⟩:=mQ dO hH hy (λ v H' n' e=>by cases e;exact Yc);rw[nd (λ d e=>by cases e),h1];rcases h2 with rfl|⟨rfl,rfl⟩
  ·rw[Oper.uponIn_value];exact hk _ _ _ h3 h4 h5 h6
  ·rw[Oper.uponIn_skip];exact hk _ _ _ h3 h4 h5 h6
 ·rename_i f args;split at h
  ·rename_i v H1 n1 hc;cases h;obtain⟨hle,V9⟩:=AI _ _ hc;refine⟨λ v H' n' e=>by cases e;exact hle,λ Yc next Q hk=>⟨hA,?_⟩⟩;obtain⟨iS,h1,h2⟩:=mQ dO hH hy (λ v H' n' e=>by cases e);rw[nd (λ d e=>by cases e),h1,Oper.uponIn_enter];refine⟨λ h=>(by cases h),?_⟩;refine jV ((V9 ν F w iS hg Yc hH h2).mono ?_);rintro e w2 ⟨ν',v',rfl,k1,k2,k3,k4⟩;exact hk _ _ _ k1 k2 k3 k4
  ·cases h
 ·rename_i l args;split at h
  case h_2=>cases h
  rename_i st pend T2 N' ps as0 bo d hb;split at h
  case h_2=>cases h
  rename_i RW g_;split at h
  case h_2=>cases h
  rename_i v H1 n1 hc;cases h;obtain⟨hle,V9⟩:=AI _ _ hc;refine⟨λ v H' n' e=>by cases e;exact hle,λ Yc next Q hk=>⟨hA,?_⟩⟩;obtain⟨b,K,iS,hν,h1,h2⟩:=mQ dO hH hy (λ v H' n' e=>by cases e);obtain⟨lp,g1,g2,g3,g4,g5,g6,g7,g8⟩:=hH.loop hb hν;have hlen:iS.length=lp.params.size:=by
   rw[g5,h1.length];rw[d9] at RW;exact aaX RW
  rw[nd (λ d e=>by cases e),h2,FY g1 hlen,Oper.uponIn_round];refine⟨λ h=>(by cases h),?_⟩;rw[g6,g7,g5];refine(V9 ν F w b K _ lp.fn r' hg hν (vl h1 g4 g_) Yc hH).mono ?_;rintro e w2 ⟨ν',v',rfl,k1,k2,k3,k4⟩;exact hk _ _ _ k1 k2 k3 k4
 ·rename_i d;split at h
  ·cases h;cases hr;refine⟨λ v H' n' e=>(by cases e),rfl,λ next Q hk=>⟨hA,?_⟩⟩;obtain⟨d',h1,h2⟩:=mQ dO hH hy (λ v H' n' e=>by cases e);have:o.semAt (Wr none).round a.eval=execOp a.eval o:=rfl;rw[this,h1,Oper.uponIn_defer];exact hk _ h2
  ·cases h
 ·cases h
theorem kz{ops:Array Oper}{b:Bool}(hT:TRel ν N T a.tmps)(h:eL ops o T=some b):Region.wanted o (yielded ops a.tmps)=b:=by
 unfold eL at h;unfold Region.wanted;split at h
 ·rename_i hg;rw[hg];cases h;rfl
 ·rename_i j want hg;rw[hg];simp only;split at h
  case h_2=>cases h
  rename_i d hd;have hy:yielded ops a.tmps j=match a.tmps[d]? with|some (.bool b)=>some b|_=>none:=by
   unfold yielded;rw[hd];rfl
  have hv:(d<N/\∃v',a.tmps[d]?=some v'/\VRi ν (cN T d) v')\/(a.tmps[d]?=none/\cN T d=undef):=by
   rcases aaV d N with h1|h1
   ·exact .inl ⟨h1,hT.get d h1⟩
   ·exact .inr ⟨acf (by rw[hT.size];exact h1),hT.out d h1⟩
  rw[hy];split at h
  ·rename_i b' hb;cases h;rcases hv with ⟨-,v',e1,e2⟩|⟨e1,e2⟩
   ·rw[hb] at e2;rw[e2.plain_eq rfl] at e1;rw[e1];simp
   ·rw[hb] at e2;cases e2
  ·rename_i vs hb;cases h;rcases hv with ⟨-,v',e1,e2⟩|⟨e1,e2⟩
   ·rw[hb] at e2;rw[e1];cases e2 with
    |atom _ h=>simp[cw] at h
    |tuple _ _=>rfl
   ·rw[e1];rfl
  ·cases h
theorem SR.op{s:St}(h:SR ν G N s F a w):∀l,jk o.op=some l->tW G l=true->OK ν s.T a l:=λ l _ hk=>
 (FE.mk h.t h.g).ok hk
theorem pf(AI:kY P G ih){ops:Array Oper}:∀ (rest:List Oper) (s s':St),nB P G ih r N ops rest s=some s'->s.n<=s'.n/\∀ν F a w r' (Q:Exit->Act->World->Prop),RR ν r r'->SR ν G N s F a w->Fr ν s.n s'.n->
  (∀ν' a' w',Ext ν ν' s.n s'.n->SR ν' G N s' F a' w'->Below 0 w w'->Q .normal a' w')->wpListIn (Wr r') 0 P ops Q rest a w
 | [],s,s',h=>by
  rw[nB] at h;cases h;exact⟨aaI _,λ ν F a w r' Q hr hs hf hk=>hk ν a w (.refl _ _) hs (go _ _)⟩
 |o::rest,s,s',h=>by
  rw[nB] at h;split at h
  ·cases h
  ·rename_i hw;split at h
   case h_2=>cases h
   rename_i T1 hp;obtain⟨h1,h2⟩:=pf AI rest _ _ h;refine⟨h1,λ ν F a w r' Q hr hs hf hk=>?_⟩;rw[wpListIn,if_neg (by rw[kz hs.t hw];simp)];refine⟨λ _ _=>trivial,?_⟩;exact h2 ν F _ w r' Q hr ⟨hs.g,hs.t.put aaA hp,by rw[fS];exact hs.d,hs.h⟩ hf hk
  ·rename_i hw;split at h
   ·cases h
   ·rename_i v H1 n1 iN;split at h
    case h_2=>cases h
    rename_i T1 hp;obtain⟨h1,h2⟩:=pf AI rest _ _ h;simp only at h1 h2;have hle:s.n<=n1:=by
     clear h2;unfold kl at iN;split at iN
     ·cases iN
     rename_i y hy;split at iN
     ·cases iN;exact wN hy
     ·split at iN
      ·rename_i hc;cases iN;exact(AI _ _ hc).1
      ·cases iN
     ·split at iN
      case h_2=>cases iN
      split at iN
      case h_2=>cases iN
      split at iN
      ·rename_i hc;cases iN;exact(AI _ _ hc).1
      ·cases iN
     ·split at iN <;> cases iN
     ·cases iN
    refine⟨by omega,λ ν F a w r' Q hr hs hf hk=>?_⟩;rw[wpListIn,if_pos (kz hs.t hw)];obtain⟨-,h4⟩:=wO AI hs.g hr hs.op hs.h iN;refine h4 (λ i hi1 hi2=>hf i hi1 (by omega)) _ _ (λ ν' v' w' k1 k2 k3 k4=>?_);have UE:=k2.sub (λ i hi1 hi2=>hf i hi1 (by omega));exact h2 ν' F _ w' r' Q (hr.mono UE) ⟨hs.g.mono UE,(hs.t.mono UE).put k1 hp,by rw[fS];exact hs.d.mono UE,k3⟩ (k2.fr hf h1) (λ ν2 a2 w2 q1 q2 q3=>hk ν2 a2 w2 (k2.trans q1) q2 (k4.trans q3))
   ·rename_i d iN;split at h
    case h_2=>cases h
    rename_i T1 hp;obtain⟨h1,h2⟩:=pf AI rest _ _ h;refine⟨h1,λ ν F a w r' Q hr hs hf hk=>?_⟩;rw[wpListIn,if_pos (kz hs.t hw)];obtain⟨-,h3,h4⟩:=wO AI hs.g hr hs.op hs.h iN;refine h4 _ _ (λ d' Xb=>?_);exact h2 ν F _ w r' Q hr ⟨hs.g,TRel.put (a:={ a with defers:=d'::a.defers }) hs.t aaA hp,by rw[fS];exact .cons Xb hs.d,hs.h⟩ hf hk
end ops
end
end Go.Proofs.YtogafelgppjklaaGreatDoor
