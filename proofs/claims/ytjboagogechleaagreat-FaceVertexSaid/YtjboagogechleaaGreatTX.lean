import Derived.Test.YtjboagogechleaaGreatTL
namespace Go.Ab.M
open Go.Proofs
set_option linter.unusedVariables false
set_option linter.defProp false
set_option maxRecDepth 100000
structure Knot where
 From:Int
 To:Int
 W:Rat
 Next:List Int
 Gone:Bool
 deriving DecidableEq,Inhabited
abbrev Knot.D (x:Knot):List D:=[.v (.int .i64 x.From)]++[.v (.int .i64 x.To)]++Rat.D x.W++[.sl (x.Next.map K4)]++[.v (.bool x.Gone)]
structure Dual where
 Ins:Int
 aA:Int
 All:List Knot
 deriving DecidableEq,Inhabited
abbrev Dual.D (x:Dual):List D:=[.v (.int .i64 x.Ins),.v (.int .i64 x.aA),.sl (x.All.map Knot.D)]
structure Step where
 Kind:Int
 A_:Int
 B_:Int
 deriving DecidableEq,Inhabited
abbrev Step.D (x:Step):List D:=[.v (.int .i64 x.Kind),.v (.int .i64 x.A_),.v (.int .i64 x.B_)]
def zY:Option Knot:=some (Knot.mk (-1) (-1) (Rat.mk false [] []) [] true)
theorem zM:∀r,zY=some r->ak Tryz.prog 126 0 [] [] (AG Knot.D r) []:=
 ay 10 (.ps 1000003 [.b 10] (.ret (Knot.mk (-1) (-1) (Rat.mk false [] []) [] true))) Tryz.func126
def Jp (k:Knot):Option Bool:=bif k.From==(-1) then bif k.To==(-1) then bif (k.Next.length:Int)==0 then bif !k.W.Neg then bif (k.W.Num.length:Int)==0 then some ((k.W.Den.length:Int)==0) else some false else some false else some false else some false else some false
theorem aa1 (k:Knot):∀r,Jp k=some r->ak Tryz.prog 134 0 [AG Knot.D k] [] (B r) []:=
 ay 10 (.br 10008 (.br 10018 (.op 10022 (.ln K4 k.Next) (.br 10030 (.br 10042 (.op 10048 (.ln K5 k.W.Num) (.br 10056 (.op 10062 (.ln K5 k.W.Den) (.ret ((k.W.Den.length:Int)==0))) (.ret false))) (.ret false)) (.ret false))) (.ret false)) (.ret false)) Tryz.func134
def XW (tA:Dual) (a:Knot) (i:Nat):St:=⟨99,0,[(2,.ptr 10 0 0),(3,.ptr 11 0 0),(51,SL K4 a.Next),(52,I (a.Next.length:Int)),(53,I (i:Int))],[(10,BOX [I tA.Ins,I tA.aA,SL Knot.D tA.All]),(11,BOX [I a.From,I a.To,B a.W.Neg,SL K5 a.W.Num,SL K5 a.W.Den,SL K4 a.Next,B a.Gone])]⟩
def XR (tA:Dual) (a:Knot):St:=⟨99,0,[(4,B false)],[]⟩
def Y6 (tA:Dual) (a:Knot):St:=⟨99,0,[],[]⟩
def dH (tA:Dual) (a:Knot) (i:Nat):Option (Nat⊕(Unit⊕Unit)):=let y0:=nth a.Next i;let y1:=y0.toNat<tA.All.length;let y2:=nth tA.All (y0.toNat);let y3:=0<=nth a.Next i;bif decide ((i:Int)<(a.Next.length:Int)) then G1 (i<a.Next.length)<|bif decide (y0<0) then some (.inr (.inl ())) else bif decide (y0>=(tA.All.length:Int)) then some (.inr (.inl ())) else bif decide ((i:Int)>0) then G3 ((i:Int)-1)<|G1 (0<=(i:Int)-1)<|G1 (((i:Int)-1).toNat<a.Next.length)<|bif decide (y0<=(nth a.Next (((i:Int)-1).toNat))) then some (.inr (.inl ())) else G1 y3<|G1 y1<|bif y2.Gone then some (.inr (.inl ())) else G1 y3<|G1 y1<|bif (y2.From) != (-1) then some (.inr (.inl ())) else G3 ((i:Int)+1)<|some (.inl (i+1)) else G1 y3<|G1 y1<|bif y2.Gone then some (.inr (.inl ())) else G1 y3<|G1 y1<|bif (y2.From) != (-1) then some (.inr (.inl ())) else G3 ((i:Int)+1)<|some (.inl (i+1)) else some (.inr (.inr ()))
theorem V7 (tA:Dual) (a:Knot):∀σ:Nat,aP Tryz.prog (nav [1,1,1,0,1,0,0] (aj Tryz.f74)) (fun (σ:Nat)=>XW tA a σ) (fun (y:Unit⊕Unit)=>bf y (fun _=>.ret) (fun _=>(.exit 0))) (fun (y:Unit⊕Unit)=>bf y (fun y=>XR tA a) (fun y=>Y6 tA a)) σ (dH tA a σ)
 | i=>let y0:=G4 [4] [] (.ret (.inr (.inl ())));let y1:=G4 [2,3,51,52,53] [10,11] (.ret (.inl (i+1)));aK 1010 (.br 100000054 (.op 70002 (.el K4 a.Next (.up i)) (.br 80006 y0 (.op 80012 (.ln Knot.D tA.All) (.br 80020 y0 (.br 80026 (.op 80036 (.el K4 a.Next .dn) (.br 80048 y0 (.op 80054 (.el Knot.D tA.All .dn) (.br 80064 y0 (.op 80070 (.el Knot.D tA.All .dn) (.br 100000097 y0 y1)))))) (.op 80054 (.el Knot.D tA.All .dn) (.br 80064 y0 (.op 80070 (.el Knot.D tA.All .dn) (.br 100000097 y0 y1))))))))) (G4 [] [] (.ret (.inr (.inr ())))))
def Iy (tA:Dual) (a:Knot) (i:Nat):Option (Unit⊕Unit):=aN (fun (σ:Nat)=>dH tA a σ) FU i
def Hr (tA:Dual) (a:Knot) (i:Nat):=
 aU (V7 tA a) (fun y h=>by rcases y with y | y<;>cases h) FU i
def Jy (tA:Dual) (a:Knot):Option Bool:=bif a.Gone then (Jp a).bind fun x0=>some x0 else bif decide (a.From<(-1)) then some false else bif decide (a.From>=tA.Ins) then some false else bif decide (a.To<(-1)) then some false else bif decide (a.To>=tA.aA) then some false else bif a.To != (-1) then bif decide ((a.Next.length:Int)>0) then some false else (uM a.W).bind fun x0=>bif !x0 then some false else (Iy tA a 0).bind fun y_=>bf y_ (fun x1=>some false) (fun x2=>some true) else (uM a.W).bind fun x0=>bif !x0 then some false else (Iy tA a 0).bind fun y_=>bf y_ (fun x1=>some false) (fun x2=>some true)
theorem abB (tA:Dual) (a:Knot):∀r,Jy tA a=some r->ak Tryz.prog 74 0 [AG Dual.D tA,AG Knot.D a] [] (B r) []:=
 ay 10 (.br 100000008 (.call [] [] (aa1 a) .no fun x0=>.ret x0) (.br 30008 (.ret false) (.br 30022 (.ret false) (.br 30032 (.ret false) (.br 30046 (.ret false) (.br 30054 (.op 30058 (.ln K4 a.Next) (.br 30068 (.ret false) (.call [] [] (AV a.W) .no fun x0=>.br 100000049 (.ret false) (.op 50004 (.ln K4 a.Next) (K3 [2,3,51,52,53] [10,11] (.lp2 0 (Hr tA a 0) (fun x1=>.ret false) (fun x2=>.ret true))))))) (.call [] [] (AV a.W) .no fun x0=>.br 100000049 (.ret false) (.op 50004 (.ln K4 a.Next) (K3 [2,3,51,52,53] [10,11] (.lp2 0 (Hr tA a 0) (fun x1=>.ret false) (fun x2=>.ret true))))))))))) Tryz.func74
def BG (s1:List Int) (s2:List Int) (i:Nat):St:=⟨26,0,[(0,SL K4 s1),(1,SL K4 s2),(12,I (s1.length:Int)),(13,I (i:Int))],[]⟩
def BL (s1:List Int) (s2:List Int):St:=⟨26,0,[(4,B false)],[]⟩
def BD (s1:List Int) (s2:List Int):St:=⟨26,0,[],[]⟩
def eX (s1:List Int) (s2:List Int) (i:Nat):Option (Nat⊕(Unit⊕Unit)):=bif decide ((i:Int)<(s1.length:Int)) then G1 (i<s1.length)<|G1 (i<s2.length)<|bif (nth s1 i) != (nth s2 i) then some (.inr (.inl ())) else G3 ((i:Int)+1)<|some (.inl (i+1)) else some (.inr (.inr ()))
theorem BI (s1:List Int) (s2:List Int):∀σ:Nat,aP Tryz.prog (nav [1,1,0,1,0,0] (aj Tryz.f117)) (fun (σ:Nat)=>BG s1 s2 σ) (fun (y:Unit⊕Unit)=>bf y (fun _=>.ret) (fun _=>(.exit 0))) (fun (y:Unit⊕Unit)=>bf y (fun y=>BL s1 s2) (fun y=>BD s1 s2)) σ (eX s1 s2 σ)
 | i=>aK 1010 (.br 100000014 (.op 60004 (.el K4 s1 (.up i)) (.op 60012 (.el K4 s2 (.up i)) (.br 100000024 (G4 [4] [] (.ret (.inr (.inl ())))) (G4 [0,1,12,13] [] (.ret (.inl (i+1))))))) (G4 [] [] (.ret (.inr (.inr ())))))
def nS (s1:List Int) (s2:List Int) (i:Nat):Option (Unit⊕Unit):=aN (fun (σ:Nat)=>eX s1 s2 σ) FU i
def BM (s1:List Int) (s2:List Int) (i:Nat):=
 aU (BI s1 s2) (fun y h=>by rcases y with y | y<;>cases h) FU i
def iU (s1:List Int) (s2:List Int):Option Bool:=bif (s1.length:Int) != (s2.length:Int) then some false else (nS s1 s2 0).bind fun y_=>bf y_ (fun x0=>some false) (fun x1=>some true)
theorem uj (s1:List Int) (s2:List Int):∀r,iU s1 s2=some r->ak Tryz.prog 117 0 [SL K4 s1,SL K4 s2] [] (B r) []:=
 ay 10 (.op 10002 (.ln K4 s1) (.op 10006 (.ln K4 s2) (.br 100000010 (.ret false) (.op 30002 (.ln K4 s1) (K3 [0,1,12,13] [] (.lp2 0 (BM s1 s2 0) (fun x0=>.ret false) (fun x1=>.ret true))))))) Tryz.func117
def WE (d:Dual) (e:aC) (next:List Int) (behind:List Int) (back:List (List Int)) (i:Nat):St:=⟨49,0,[(2,SL K4 next),(3,SL K4 behind),(4,SL (cL K4) back),(6,.ptr 11 0 0),(14,SL Knot.D d.All),(15,I (d.All.length:Int)),(16,I (i:Int))],[(11,BOX [I e.from_,I e.to_])]⟩
def YT (d:Dual) (e:aC) (next:List Int) (behind:List Int) (back:List (List Int)) (i:Nat):St:=⟨49,0,[(10,I (i:Int))],[]⟩
def Xl (d:Dual) (e:aC) (next:List Int) (behind:List Int) (back:List (List Int)):St:=⟨49,0,[],[]⟩
def nH (d:Dual) (e:aC) (next:List Int) (behind:List Int) (back:List (List Int)) (i:Nat):Option (Nat⊕(Nat⊕Unit)):=let y0:=nth d.All i;bif decide ((i:Int)<(d.All.length:Int)) then G1 (i<d.All.length)<|bif !(y0.Gone) then bif (((y0.From)==e.from_)&&(((y0.To)==e.to_)&&true)) then (iU (y0.Next) next).bind fun x0=>bif x0 then G1 (i<back.length)<|(iU (nth back i) behind).bind fun x1=>bif x1 then some (.inr (.inl i)) else G3 ((i:Int)+1)<|some (.inl (i+1)) else G3 ((i:Int)+1)<|some (.inl (i+1)) else G3 ((i:Int)+1)<|some (.inl (i+1)) else G3 ((i:Int)+1)<|some (.inl (i+1)) else some (.inr (.inr ()))
theorem Yp (d:Dual) (e:aC) (next:List Int) (behind:List Int) (back:List (List Int)):∀σ:Nat,aP Tryz.prog (nav [1,0,1,0,0] (aj Tryz.f57)) (fun (σ:Nat)=>WE d e next behind back σ) (fun (y:Nat⊕Unit)=>bf y (fun _=>.ret) (fun _=>(.exit 0))) (fun (y:Nat⊕Unit)=>bf y (fun y=>YT d e next behind back y) (fun y=>Xl d e next behind back)) σ (nH d e next behind back σ)
 | i=>let y0:=G4 [2,3,4,6,14,15,16] [11] (.ret (.inl (i+1)));aK 1010 (.br 100000017 (.op 30002 (.el Knot.D d.All (.up i)) (.br 40008 (.br 40026 (.call [] [] (uj ((nth d.All i).Next) next) .no fun x0=>.br 40038 (.op 40042 (.el (cL K4) back (.up i)) (.call [] [] (uj (nth back i) behind) .no fun x1=>.br 100000046 (G4 [10] [] (.ret (.inr (.inl i)))) y0)) y0) y0) y0)) (G4 [] [] (.ret (.inr (.inr ())))))
def IE (d:Dual) (e:aC) (next:List Int) (behind:List Int) (back:List (List Int)) (i:Nat):Option (Nat⊕Unit):=aN (fun (σ:Nat)=>nH d e next behind back σ) FU i
def YD (d:Dual) (e:aC) (next:List Int) (behind:List Int) (back:List (List Int)) (i:Nat):=
 aU (Yp d e next behind back) (fun y h=>by rcases y with y | y<;>cases h) FU i
def J8 (d:Dual) (e:aC) (next:List Int) (behind:List Int) (back:List (List Int)):Option Int:=(IE d e next behind back 0).bind fun y_=>bf y_ (fun x0=>some (x0:Int)) (fun x1=>some (-1))
theorem ab7 (d:Dual) (e:aC) (next:List Int) (behind:List Int) (back:List (List Int)):∀r,J8 d e next behind back=some r->ak Tryz.prog 57 0 [AG Dual.D d,AG aC.D e,SL K4 next,SL K4 behind,SL (cL K4) back] [] (I r) []:=
 ay 10 (.op 10004 (.ln Knot.D d.All) (K3 [2,3,4,6,14,15,16] [11] (.lp2 0 (YD d e next behind back 0) (fun x0=>.ret (x0:Int)) (fun x1=>.ret (-1))))) Tryz.func57
def jE (s:List Int):Option (List Int):=bif decide (0<s.length) then bif decide (0+s.length<=2147483648) then some ([]++s) else none else none
theorem rH (s:List Int):∀r,jE s=some r->ak Tryz.prog 60 0 [SL K4 s] [] (.msl 0 0 none none) [(0,ROW 1 K4 r 0)]:=
 ay 10 (.op 10002 (.ln K4 s) (.op 30004 (.ap K4 [] s 1 fun _=>⟨rfl,rfl⟩) (.ps 1000003 [.k [2] [11],.m 11 0] (.ret ([]++s))))) Tryz.func60
def kF (o0:Int) (x:Int):Option Bool:=some (x==o0)
theorem CQ (o0:Int) (x:Int):∀r,kF o0 x=some r->ak Tryz.prog 125 1 [I x,.ptr 0 0 0] [(0,BOX [I o0])] (B r) [(0,BOX [I o0])]:=
 ay 10 (.ret (x==o0)) Tryz.func125
def yI (o0:Int) (s:List Int) (i:Nat):St:=⟨19,1,[(0,SL K4 s),(1,.fn (.func 125) [] [.ptr 0 0 0]),(7,I (s.length:Int)),(8,I (i:Int))],[(0,BOX [I o0])]⟩
def yB (o0:Int) (s:List Int) (i:Nat):St:=⟨19,1,[(4,I (i:Int))],[(0,BOX [I o0])]⟩
def xP (o0:Int) (s:List Int):St:=⟨19,1,[],[(0,BOX [I o0])]⟩
def dQ (o0:Int) (s:List Int) (i:Nat):Option (Nat⊕(Nat⊕Unit)):=bif decide ((i:Int)<(s.length:Int)) then G1 (i<s.length)<|(kF o0 (nth s i)).bind fun x0=>bif x0 then some (.inr (.inl i)) else G3 ((i:Int)+1)<|some (.inl (i+1)) else some (.inr (.inr ()))
theorem yF (o0:Int) (s:List Int):∀σ:Nat,aP Tryz.prog (nav [1,0,1,0,0] (aj Tryz.f170)) (fun (σ:Nat)=>yI o0 s σ) (fun (y:Nat⊕Unit)=>bf y (fun _=>.ret) (fun _=>(.exit 0))) (fun (y:Nat⊕Unit)=>bf y (fun y=>yB o0 s y) (fun y=>xP o0 s)) σ (dQ o0 s σ)
 | i=>aK 1010 (.br 100000009 (.op 40006 (.el K4 s (.up i)) (.call [0] [] (CQ o0 (nth s i)) .no fun x0=>.br 100000016 (G4 [4] [0] (.ret (.inr (.inl i)))) (G4 [0,1,7,8] [0] (.ret (.inl (i+1)))))) (G4 [] [0] (.ret (.inr (.inr ())))))
def qy (o0:Int) (s:List Int) (i:Nat):Option (Nat⊕Unit):=aN (fun (σ:Nat)=>dQ o0 s σ) FU i
def yC (o0:Int) (s:List Int) (i:Nat):=
 aU (yF o0 s) (fun y h=>by rcases y with y | y<;>cases h) FU i
def iM (o0:Int) (s:List Int):Option Int:=(qy o0 s 0).bind fun y_=>bf y_ (fun x0=>some (x0:Int)) (fun x1=>some (-1))
theorem zK (o0:Int) (s:List Int):∀r,iM o0 s=some r->ak Tryz.prog 170 1 [SL K4 s,.fn (.func 125) [] [.ptr 0 0 0]] [(0,BOX [I o0])] (I r) [(0,BOX [I o0])]:=
 ay 10 (.op 10002 (.ln K4 s) (K3 [0,1,7,8] [0] (.lp2 0 (yC o0 s 0) (fun x0=>.ret (x0:Int)) (fun x1=>.ret (-1))))) Tryz.func170
def xw (o1:Int) (i:Int) (j:Int) (s:List Int):St:=⟨42,2,[(0,.msl 0 0 none none),(1,.fn (.func 125) [] [.ptr 1 0 0]),(5,I i),(6,I j)],[(0,ROW 1 K4 s 0),(1,BOX [I o1])]⟩
def xG (o1:Int) (i:Int) (s:List Int):St:=⟨42,2,[(0,.msl 0 0 none none),(5,I i)],[(0,ROW 1 K4 s 0),(1,BOX [I o1])]⟩
def dM (o1:Int) (i:Int) (j:Int) (s:List Int):Option ((Int×Int×List Int)⊕(Int×List Int)):=let y0:=j.toNat<s.length;let y1:=i.toNat<s.length;let y2:=nth s j.toNat;bif decide (j<(s.length:Int)) then G1 (0<=j)<|G1 y0<|G1 y0<|(kF o1 y2).bind fun x1=>bif !x1 then G1 (0<=i)<|G1 y1<|G1 y1<|G3 (i+1)<|G3 (j+1)<|some (.inl (i+1,j+1,s.set i.toNat y2)) else G3 (j+1)<|some (.inl (i,j+1,s)) else some (.inr (i,s))
theorem xg (o1:Int):∀σ:Int×Int×List Int,aP Tryz.prog (nav [1,1,1,0,1,0,0] (aj Tryz.f124)) (fun (σ:Int×Int×List Int)=>xw o1 σ.1 σ.2.1 σ.2.2) (fun (_:Int×List Int)=>(.exit 0)) (fun (y:Int×List Int)=>xG o1 y.1 y.2) σ (dM o1 σ.1 σ.2.1 σ.2.2)
 | (i,j,s)=>let y0:=nth s j.toNat;aK 1010 (.op 50004 (.ln K4 s) (.br 100000019 (.op 70004 (.el K4 s .dn) (.op 70006 (.ld K4 s) (.call [1] [] (CQ o1 y0) .no fun x1=>.br 100000029 (.op 90006 (.el K4 s .dn) (.op 90008 (.st K4 s y0) (G4 [0,1,5,6] [0,1] (.ret (.inl (i+1,j+1,s.set i.toNat y0)))))) (G4 [0,1,5,6] [0,1] (.ret (.inl (i,j+1,s))))))) (G4 [0,5] [0,1] (.ret (.inr (i,s))))))
def jy (o1:Int) (i:Int) (j:Int) (s:List Int):Option (Int×List Int):=aN (fun (σ:Int×Int×List Int)=>dM o1 σ.1 σ.2.1 σ.2.2) FU (i,j,s)
def wX (o1:Int) (i:Int) (j:Int) (s:List Int):=
 aU (xg o1) (fun _ h=>by cases h) FU (i,j,s)
def kN (o0:List Int) (o1:Int):Option (List Int):=(iM o1 o0).bind fun x0=>bif x0==(-1) then some o0 else bif inK .i64 (x0+1) then (jy o1 x0 (x0+1) o0).bind fun x1=>bif decide (0<=x1.1) then bif decide (x1.1.toNat<=(x1.2.map K4).length) then bif decide (0+((x1.2.map K4).length)<=(x1.2.map K4).length) then bif decide ((x1.2.map K4).length<=(x1.2.map K4).length) then bif decide (x1.1.toNat<x1.2.length) then bif decide (0<=x1.1) then bif decide (0<=x1.1.toNat) then bif decide (x1.1.toNat<=(x1.2.take x1.1.toNat++List.replicate (x1.2.length-x1.1.toNat) 0).length) then some ((x1.2.take x1.1.toNat++List.replicate (x1.2.length-x1.1.toNat) 0).take x1.1.toNat) else none else none else none else none else none else none else none else none else none
theorem yM (o0:List Int) (o1:Int):∀r,kN o0 o1=some r->ak Tryz.prog 124 2 [.msl 0 0 none none,.fn (.func 125) [] [.ptr 1 0 0]] [(0,ROW 1 K4 o0 0),(1,BOX [I o1])] (SL K4 r) [(1,BOX [I o1])]:=
 ay 10 (.call [1] [] (zK o1 o0) (.yes fun _=>⟨rfl,⟨rfl,trivial⟩⟩) fun x0=>.br 100000012 (.ps 1000003 [.z 4] (G4 [4] [1] (.ret o0))) (K3 [0,1,5,6] [0,1] (.lp1 0 (wX o1 x0 (x0+1) o0) fun x1=>.op 110004 (.sb .dn (.up 0) (.up 0)) (.op 110006 (.st K4 x1.2 0) (.ps 22 [.z 0,.k [0,5] [1]] (.op 120004 (.sl K4 (x1.2.take x1.1.toNat++List.replicate (x1.2.length-x1.1.toNat) 0) 1 (fun _=>rfl) (.up 0) .dn) (G4 [4] [1] (.ret ((x1.2.take x1.1.toNat++List.replicate (x1.2.length-x1.1.toNat) 0).take x1.1.toNat))))))))) Tryz.func124
def lI (l:List Int) (n:Int):Option (List Int):=(jE l).bind fun x0=>(kN x0 n).bind fun x1=>some x1
theorem oN (l:List Int) (n:Int):∀r,lI l n=some r->ak Tryz.prog 61 0 [SL K4 l,I n] [] (SL K4 r) []:=
 ay 10 (.call [] [100032] (rH l) .no fun x0=>.call [100032,10] [] (yM x0 n) .no fun x1=>.ret x1) Tryz.func61
def FB (d:Dual) (n:Int):Option Bool:=bif decide (n>=0) then bif decide (n<(d.All.length:Int)) then bif decide (0<=n) then bif decide (n.toNat<d.All.length) then some (!((nth d.All n.toNat).Gone)) else none else none else some false else some false
def oV (tA:Dual) (a:Int) (i:Nat):Option (Nat⊕(Unit⊕Unit)):=let y0:=(nth tA.All a.toNat).Next;let y1:=i<y0.length;bif decide ((i:Int)<(y0.length:Int)) then G1 y1<|(FB tA (nth y0 i)).bind fun x1=>bif !x1 then some (.inr (.inl ())) else bif decide ((i:Int)>0) then G3 ((i:Int)-1)<|G1 (0<=(i:Int)-1)<|G1 (((i:Int)-1).toNat<y0.length)<|G1 y1<|bif decide ((nth y0 (((i:Int)-1).toNat))>=(nth y0 i)) then some (.inr (.inl ())) else G3 ((i:Int)+1)<|some (.inl (i+1)) else G3 ((i:Int)+1)<|some (.inl (i+1)) else some (.inr (.inr ()))
def E8 (tA:Dual) (a:Int) (i:Nat):Option (Unit⊕Unit):=aN (fun (σ:Nat)=>oV tA a σ) FU i
def rX (l:List Int) (n:Int) (i:Nat):Option (Nat⊕(Unit⊕Unit)):=bif decide ((i:Int)<(l.length:Int)) then G1 (i<l.length)<|bif (nth l i)==n then some (.inr (.inl ())) else G3 ((i:Int)+1)<|some (.inl (i+1)) else some (.inr (.inr ()))
def WQ (l:List Int) (n:Int) (i:Nat):Option (Unit⊕Unit):=aN (fun (σ:Nat)=>rX l n σ) FU i
def Ej (l:List Int) (n:Int):Option Bool:=(WQ l n 0).bind fun y_=>bf y_ (fun x0=>some true) (fun x1=>some false)
def nJ (d:Dual) (b:Int) (out:List Int) (i:Nat):Option ((List Int×Nat)⊕(List Int)):=bif decide ((i:Int)<(d.All.length:Int)) then G1 (i<d.All.length)<|(Ej ((nth d.All i).Next) b).bind fun x0=>bif x0 then G1 (out.length+1<=2147483648)<|G3 ((i:Int)+1)<|some (.inl (out++[(i:Int)],i+1)) else G3 ((i:Int)+1)<|some (.inl (out,i+1)) else some (.inr out)
def KN (d:Dual) (b:Int) (out:List Int) (i:Nat):Option (List Int):=aN (fun (σ:List Int×Nat)=>nJ d b σ.1 σ.2) FU (out,i)
def nP (d:Dual) (b:Int):Option (List Int):=(KN d b [] 0).bind fun x0=>some x0
def MQ (tA:Dual) (a:Int):Option Bool:=let y0:=nth tA.All a.toNat;let y1:=((y0.Next).length:Int);bif decide (0<=a) then bif decide (a.toNat<tA.All.length) then bif y0.Gone then bif (y0.From)==(-1) then bif (y0.To)==(-1) then bif y1==0 then (pW (y0.W) (Rat.mk false [] [])).bind fun x0=>some x0 else some false else some false else some false else (Jk (y0.W)).bind fun x0=>bif !x0 then some false else bif decide ((y0.From)<(-1)) then some false else bif decide ((y0.From)>=tA.Ins) then some false else bif decide ((y0.To)<(-1)) then some false else bif decide ((y0.To)>=tA.aA) then some false else bif decide ((y0.To)>=0) then bif decide (y1>0) then some false else (E8 tA a 0).bind fun y_=>bf y_ (fun x1=>some false) (fun x2=>bif (y0.From)==(-1) then some true else (nP tA a).bind fun x3=>some ((x3.length:Int)==0)) else (E8 tA a 0).bind fun y_=>bf y_ (fun x1=>some false) (fun x2=>bif (y0.From)==(-1) then some true else (nP tA a).bind fun x3=>some ((x3.length:Int)==0)) else none else none
def mQ (d:Dual) (i:Nat):Option (Nat⊕(Unit⊕Unit)):=bif decide ((i:Int)<(d.All.length:Int)) then (MQ d (i:Int)).bind fun x0=>bif !x0 then some (.inr (.inl ())) else G3 ((i:Int)+1)<|some (.inl (i+1)) else some (.inr (.inr ()))
def KL (d:Dual) (i:Nat):Option (Unit⊕Unit):=aN (fun (σ:Nat)=>mQ d σ) FU i
def kD (tA:Dual) (i:Nat) (i1:Nat) (o1:List Bool) (i2:Bool) (i3:Nat):Option ((Bool×Nat)⊕Bool):=G1 (i1<tA.All.length)<|bif decide ((i3:Int)<(((nth tA.All i1).Next).length:Int)) then bif i2 then G1 (i1<tA.All.length)<|G1 (i3<((nth tA.All i1).Next).length)<|G1 (0<=nth ((nth tA.All i1).Next) i3)<|G1 ((nth ((nth tA.All i1).Next) i3).toNat<o1.length)<|G1 ((nth ((nth tA.All i1).Next) i3).toNat<o1.length)<|G3 ((i3:Int)+1)<|some (.inl (nth o1 ((nth ((nth tA.All i1).Next) i3).toNat),i3+1)) else G3 ((i3:Int)+1)<|some (.inl (false,i3+1)) else some (.inr i2)
def yO (tA:Dual) (i:Nat) (i1:Nat) (o1:List Bool) (i2:Bool) (i3:Nat):Option Bool:=aN (fun (σ:Bool×Nat)=>kD tA i i1 o1 σ.1 σ.2) FU (i2,i3)
def kC (tA:Dual) (i:Nat) (i1:Nat) (o1:List Bool):Option ((Nat×List Bool)⊕(List Bool)):=let y0:=i1<o1.length;let y1:=(i1:Int)+1;bif decide ((i1:Int)<(tA.All.length:Int)) then G1 y0<|G1 y0<|bif nth o1 i1 then G3 y1<|some (.inl (i1+1,o1)) else (yO tA i i1 o1 true 0).bind fun x0=>G1 y0<|G1 y0<|G3 y1<|some (.inl (i1+1,o1.set i1 x0)) else some (.inr o1)
def Gt (tA:Dual) (i:Nat) (i1:Nat) (o1:List Bool):Option (List Bool):=aN (fun (σ:Nat×List Bool)=>kC tA i σ.1 σ.2) FU (i1,o1)
def qY (tA:Dual) (i:Nat) (o:List Bool):Option ((Nat×List Bool)⊕(List Bool)):=bif decide ((i:Int)<(tA.All.length:Int)) then (Gt tA i 0 o).bind fun x0=>G3 ((i:Int)+1)<|some (.inl (i+1,x0)) else some (.inr o)
def Lp (tA:Dual) (i:Nat) (o:List Bool):Option (List Bool):=aN (fun (σ:Nat×List Bool)=>qY tA σ.1 σ.2) FU (i,o)
def jY (tA:Dual) (x0:List Bool) (i:Nat):Option (Nat⊕(Unit⊕Unit)):=let y0:=i<x0.length;bif decide ((i:Int)<(x0.length:Int)) then G1 y0<|G1 y0<|bif !(nth x0 i) then some (.inr (.inl ())) else G3 ((i:Int)+1)<|some (.inl (i+1)) else some (.inr (.inr ()))
def GK (tA:Dual) (x0:List Bool) (i:Nat):Option (Unit⊕Unit):=aN (fun (σ:Nat)=>jY tA x0 σ) FU i
def Dn (tA:Dual):Option Bool:=bif decide (tA.All.length<=2147483648) then (Lp tA 0 (List.replicate tA.All.length false)).bind fun x0=>(GK tA x0 0).bind fun y_=>bf y_ (fun x1=>some true) (fun x2=>some false) else none
def xR (d:Dual):Option Bool:=bif decide (d.Ins<1) then some false else bif decide (d.Ins>40) then some false else bif decide (d.aA<1) then some false else bif decide (d.aA>40) then some false else bif decide ((d.All.length:Int)>20000) then some false else (KL d 0).bind fun y_=>bf y_ (fun x0=>some false) (fun x1=>(Dn d).bind fun x2=>some (!x2))
def oP (tA:Dual) (a:Int) (a1:Int) (x0:List Int) (i:Nat):Option (Nat⊕(Nat⊕Unit)):=let y0:=nth tA.All i;let y1:=nth tA.All a1.toNat;bif decide ((i:Int)<(tA.All.length:Int)) then G1 (i<tA.All.length)<|bif y0.Gone then G3 ((i:Int)+1)<|some (.inl (i+1)) else bif (y0.From) != ((nth tA.All a.toNat).From) then G3 ((i:Int)+1)<|some (.inl (i+1)) else bif (y0.To) != (y1.To) then G3 ((i:Int)+1)<|some (.inl (i+1)) else (wO (y0.Next) (y1.Next)).bind fun x1=>(nP tA (i:Int)).bind fun x2=>(wO x2 x0).bind fun x3=>bif x1 then bif x3 then some (.inr (.inl i)) else G3 ((i:Int)+1)<|some (.inl (i+1)) else G3 ((i:Int)+1)<|some (.inl (i+1)) else some (.inr (.inr ()))
def OH (tA:Dual) (a:Int) (a1:Int) (x0:List Int) (i:Nat):Option (Nat⊕Unit):=aN (fun (σ:Nat)=>oP tA a a1 x0 σ) FU i
def LP (tA:Dual) (a:Int) (a1:Int):Option Int:=bif decide (0<=a) then bif decide (a.toNat<tA.All.length) then bif decide (0<=a1) then bif decide (a1.toNat<tA.All.length) then (nP tA a).bind fun x0=>(OH tA a a1 x0 0).bind fun y_=>bf y_ (fun x1=>some (x1:Int)) (fun x2=>some (-1)) else none else none else none else none
def U2 (tA:Dual) (a:Dual) (i:Nat):St:=⟨85,0,[(2,.ptr 10 0 0),(3,.ptr 11 0 0),(5,I (i:Int))],[(10,BOX [I tA.Ins,I tA.aA,SL Knot.D tA.All]),(11,BOX [I a.Ins,I a.aA,SL Knot.D a.All])]⟩
def UG (tA:Dual) (a:Dual):St:=⟨85,0,[(4,B false)],[]⟩
def TT (tA:Dual) (a:Dual):St:=⟨85,0,[],[]⟩
def Gz (tA:Dual) (a:Dual) (i:Nat):Option (Nat⊕(Unit⊕Unit)):=let y0:=nth tA.All i;let y1:=nth a.All i;bif decide ((i:Int)<(tA.All.length:Int)) then G1 (i<tA.All.length)<|G1 (i<a.All.length)<|(wO (y0.Next) (y1.Next)).bind fun x0=>(pW (y0.W) (y1.W)).bind fun x1=>bif !x0 then some (.inr (.inl ())) else bif !x1 then some (.inr (.inl ())) else bif (y0.From) != (y1.From) then some (.inr (.inl ())) else bif (y0.To) != (y1.To) then some (.inr (.inl ())) else bif !((y0.Gone)==(y1.Gone)) then some (.inr (.inl ())) else G3 ((i:Int)+1)<|some (.inl (i+1)) else some (.inr (.inr ()))
theorem Ud (tA:Dual) (a:Dual):∀σ:Nat,aP Tryz.prog (nav [1,1,0,1,0,0] (aj Tryz.f19)) (fun (σ:Nat)=>U2 tA a σ) (fun (y:Unit⊕Unit)=>bf y (fun _=>.ret) (fun _=>(.exit 0))) (fun (y:Unit⊕Unit)=>bf y (fun y=>UG tA a) (fun y=>TT tA a)) σ (Gz tA a σ)
 | i=>let y0:=G4 [4] [] (.ret (.inr (.inl ())));let y1:=nth tA.All i;let y2:=nth a.All i;aK 1010 (.op 40006 (.ln Knot.D tA.All) (.br 100000035 (.op 60006 (.el Knot.D tA.All (.up i)) (.op 70006 (.el Knot.D a.All (.up i)) (.call [] [] (Zx (y1.Next) (y2.Next)) .no fun x0=>.call [] [] (Il (y1.W) (y2.W)) .no fun x1=>.br 100006 y0 (.br 100014 y0 (.br 100028 y0 (.br 100042 y0 (.br 100000084 y0 (G4 [2,3,5] [10,11] (.ret (.inl (i+1))))))))))) (G4 [] [] (.ret (.inr (.inr ()))))))
def abQ (tA:Dual) (a:Dual) (i:Nat):Option (Unit⊕Unit):=aN (fun (σ:Nat)=>Gz tA a σ) FU i
def UH (tA:Dual) (a:Dual) (i:Nat):=
 aU (Ud tA a) (fun y h=>by rcases y with y | y<;>cases h) FU i
def Yr (tA:Dual) (a:Dual):Option Bool:=bif tA.Ins != a.Ins then some false else bif tA.aA != a.aA then some false else bif (tA.All.length:Int) != (a.All.length:Int) then some false else (abQ tA a 0).bind fun y_=>bf y_ (fun x0=>some false) (fun x1=>some true)
theorem Zm (tA:Dual) (a:Dual):∀r,Yr tA a=some r->ak Tryz.prog 19 0 [AG Dual.D tA,AG Dual.D a] [] (B r) []:=
 ay 10 (.br 10012 (.ret false) (.br 10026 (.ret false) (.op 10030 (.ln Knot.D tA.All) (.op 10036 (.ln Knot.D a.All) (.br 100000030 (.ret false) (K3 [2,3,5] [10,11] (.lp2 0 (UH tA a 0) (fun x0=>.ret false) (fun x1=>.ret true)))))))) Tryz.func19
end Go.Ab.M
