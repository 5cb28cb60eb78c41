import Derived.Test.YtjboagogechleaaGreatTL
namespace Go.Ab.M
open Go.Proofs
set_option linter.unusedVariables false
set_option maxRecDepth 100000
structure Knot where
 From:Int
 To:Int
 W:Rat
 Next:List Int
 Gone:Bool
 deriving DecidableEq,Inhabited
abbrev Knot.D (x:Knot):List D:=[.v (.int .i64 x.From)]++[.v (.int .i64 x.To)]++Rat.D x.W++[.sl (x.Next.map (cI .i64))]++[.v (.bool x.Gone)]
structure Dual where
 Ins:Int
 aQ:Int
 All:List Knot
 deriving DecidableEq,Inhabited
abbrev Dual.D (x:Dual):List D:=[.v (.int .i64 x.Ins),.v (.int .i64 x.aQ),.sl (x.All.map Knot.D)]
structure Step where
 Kind:Int
 A_:Int
 B_:Int
 deriving DecidableEq,Inhabited
abbrev Step.D (x:Step):List D:=[.v (.int .i64 x.Kind),.v (.int .i64 x.A_),.v (.int .i64 x.B_)]
def zk:Option Knot:=
 some (Knot.mk (-1) (-1) (Rat.mk false [] []) [] true)
theorem yA:∀r,zk=some r→au Tryz.prog 126 0 [] [] (AG Knot.D r) []:=
 ay (enc:=fun r=>AG Knot.D r) (aU:=fun r=>[]) 10 (.ps 1000003 [.b 10] (.ret (Knot.mk (-1) (-1) (Rat.mk false [] []) [] true))) Tryz.func126 (by kernel_rfl) (by kernel_rfl) (by kernel_rfl)
def H6 (k:Knot):Option Bool:=
 bif k.From==(-1) then
 bif k.To==(-1) then
 bif ((k.Next.length:Nat):Int)==0 then
 bif !k.W.Neg then
 bif ((k.W.Num.length:Nat):Int)==0 then
 some (((k.W.Den.length:Nat):Int)==0)
 else
 some false
 else
 some false
 else
 some false
 else
 some false
 else
 some false
theorem VZ (k:Knot):∀r,H6 k=some r→au Tryz.prog 134 0 [AG Knot.D k] [] (B r) []:=
 ay (enc:=fun r=>B r) (aU:=fun r=>[]) 10 (.br 10008 (.br 10018 (.op 10022 (.ln (cI .i64) k.Next) (.br 10030 (.br 10042 (.op 10048 (.ln (cI .u32) k.W.Num) (.br 10056 (.op 10062 (.ln (cI .u32) k.W.Den) (.ret (((k.W.Den.length:Nat):Int)==0))) (.ret false))) (.ret false)) (.ret false))) (.ret false)) (.ret false)) Tryz.func134 (by kernel_rfl) (by kernel_rfl) (by kernel_rfl)
def AX (tA:Dual) (a:Knot) (i:Nat):St:=⟨99,0,[(2,.ptr 10 0 0),(3,.ptr 11 0 0),(51,SL (cI .i64) a.Next),(52,I ((a.Next.length:Nat):Int)),(53,I ((i:Nat):Int))],[(10,BOX [I tA.Ins,I tA.aQ,SL Knot.D tA.All]),(11,BOX [I a.From,I a.To,B a.W.Neg,SL (cI .u32) a.W.Num,SL (cI .u32) a.W.Den,SL (cI .i64) a.Next,B a.Gone])]⟩
def Bo (tA:Dual) (a:Knot):St:=⟨99,0,[(4,B false)],[]⟩
def AA (tA:Dual) (a:Knot):St:=⟨99,0,[],[]⟩
def bJ (tA:Dual) (a:Knot) (i:Nat):Option (Nat⊕(Unit⊕Unit)):=
 bif decide (((i:Nat):Int)<((a.Next.length:Nat):Int)) then
 bif decide (i<a.Next.length) then
 bif decide ((nth a.Next i)<0) then
 some (.inr (.inl ()))
 else
 bif decide ((nth a.Next i)≥((tA.All.length:Nat):Int)) then
 some (.inr (.inl ()))
 else
 bif decide (((i:Nat):Int)>0) then
 bif inK .i64 (((i:Nat):Int)-1) then
 bif decide (0≤((i:Nat):Int)-1) then
 bif decide ((((i:Nat):Int)-1).toNat<a.Next.length) then
 bif decide ((nth a.Next i)≤(nth a.Next ((((i:Nat):Int)-1).toNat))) then
 some (.inr (.inl ()))
 else
 bif decide (0≤nth a.Next i) then
 bif decide ((nth a.Next i).toNat<tA.All.length) then
 bif (nth tA.All ((nth a.Next i).toNat)).Gone then
 some (.inr (.inl ()))
 else
 bif decide (0≤nth a.Next i) then
 bif decide ((nth a.Next i).toNat<tA.All.length) then
 bif ((nth tA.All ((nth a.Next i).toNat)).From) != (-1) then
 some (.inr (.inl ()))
 else
 bif inK .i64 (((i:Nat):Int)+1) then
 some (.inl (i+1))
 else none
 else none
 else none
 else none
 else none
 else none
 else none
 else none
 else
 bif decide (0≤nth a.Next i) then
 bif decide ((nth a.Next i).toNat<tA.All.length) then
 bif (nth tA.All ((nth a.Next i).toNat)).Gone then
 some (.inr (.inl ()))
 else
 bif decide (0≤nth a.Next i) then
 bif decide ((nth a.Next i).toNat<tA.All.length) then
 bif ((nth tA.All ((nth a.Next i).toNat)).From) != (-1) then
 some (.inr (.inl ()))
 else
 bif inK .i64 (((i:Nat):Int)+1) then
 some (.inl (i+1))
 else none
 else none
 else none
 else none
 else none
 else none
 else
 some (.inr (.inr ()))
theorem Qe (tA:Dual) (a:Knot):∀σ:Nat,aN Tryz.prog (nav [1,1,1,0,1,0,0] (ah Tryz.f74)) (fun (σ:Nat)=>AX tA a σ) (fun (y:Unit⊕Unit)=>aC y (fun _=>.ret) (fun _=>(.exit 0))) (fun (y:Unit⊕Unit)=>aC y (fun y=>Bo tA a) (fun y=>AA tA a)) σ (bJ tA a σ)
 | i=>aH 1010 (.br 100000054 (.op 70002 (.el (cI .i64) a.Next (.up i)) (.br 80006 (.ps 1000003 [.k [4] []] (.ret (.inr (.inl ())))) (.op 80012 (.ln Knot.D tA.All) (.br 80020 (.ps 1000003 [.k [4] []] (.ret (.inr (.inl ())))) (.br 80026 (.op 80036 (.el (cI .i64) a.Next .dn) (.br 80048 (.ps 1000003 [.k [4] []] (.ret (.inr (.inl ())))) (.op 80054 (.el Knot.D tA.All .dn) (.br 80064 (.ps 1000003 [.k [4] []] (.ret (.inr (.inl ())))) (.op 80070 (.el Knot.D tA.All .dn) (.br 100000097 (.ps 1000003 [.k [4] []] (.ret (.inr (.inl ())))) (.ps 1000003 [.k [2,3,51,52,53] [10,11]] (.ret (.inl (i+1)))))))))) (.op 80054 (.el Knot.D tA.All .dn) (.br 80064 (.ps 1000003 [.k [4] []] (.ret (.inr (.inl ())))) (.op 80070 (.el Knot.D tA.All .dn) (.br 100000097 (.ps 1000003 [.k [4] []] (.ret (.inr (.inl ())))) (.ps 1000003 [.k [2,3,51,52,53] [10,11]] (.ret (.inl (i+1))))))))))))) (.ps 1000003 [.k [] []] (.ret (.inr (.inr ()))))) (by kernel_rfl)
def wH (tA:Dual) (a:Knot) (i:Nat):Option (Unit⊕Unit):=aK (fun (σ:Nat)=>bJ tA a σ) FU i
theorem Gh (tA:Dual) (a:Knot) (i:Nat):∀y:Unit⊕Unit,wH tA a i=some y→Runs Tryz.prog (.loop (nav [1,1,1,0,1,0,0] (ah Tryz.f74))) (AX tA a i) (aC y (fun _=>.ret) (fun _=>(.exit 0))) ((fun (y:Unit⊕Unit)=>aC y (fun y=>Bo tA a) (fun y=>AA tA a)) y):=
 aX (head:=fun (σ:Nat)=>AX tA a σ) (eo:=fun (y:Unit⊕Unit)=>aC y (fun _=>.ret) (fun _=>(.exit 0))) (so:=fun (y:Unit⊕Unit)=>aC y (fun y=>Bo tA a) (fun y=>AA tA a)) (Qe tA a) (fun y h=>by rcases y with y | y<;>cases h) FU i
def IL (tA:Dual) (a:Knot):Option Bool:=
 bif a.Gone then
 (H6 a).bind fun x0=>
 some x0
 else
 bif decide (a.From<(-1)) then
 some false
 else
 bif decide (a.From≥tA.Ins) then
 some false
 else
 bif decide (a.To<(-1)) then
 some false
 else
 bif decide (a.To≥tA.aQ) then
 some false
 else
 bif a.To != (-1) then
 bif decide (((a.Next.length:Nat):Int)>0) then
 some false
 else
 (qx a.W).bind fun x0=>
 bif !x0 then
 some false
 else
 (wH tA a 0).bind fun y_=>aC y_ (fun x1=>
 some false)
 (fun x2=>
 some true)
 else
 (qx a.W).bind fun x0=>
 bif !x0 then
 some false
 else
 (wH tA a 0).bind fun y_=>aC y_ (fun x1=>
 some false)
 (fun x2=>
 some true)
theorem VI (tA:Dual) (a:Knot):∀r,IL tA a=some r→au Tryz.prog 74 0 [AG Dual.D tA,AG Knot.D a] [] (B r) []:=
 ay (enc:=fun r=>B r) (aU:=fun r=>[]) 10 (.br 100000008 (.call [] [] (VZ a) .no fun x0=>.ret x0) (.br 30008 (.ret false) (.br 30022 (.ret false) (.br 30032 (.ret false) (.br 30046 (.ret false) (.br 30054 (.op 30058 (.ln (cI .i64) a.Next) (.br 30068 (.ret false) (.call [] [] (zY a.W) .no fun x0=>.br 100000049 (.ret false) (.op 50004 (.ln (cI .i64) a.Next) (.ps 1000001 [.k [2,3,51,52,53] [10,11]] (.lp2 0 (Gh tA a 0) (fun x1=>.ret false) (fun x2=>.ret true))))))) (.call [] [] (zY a.W) .no fun x0=>.br 100000049 (.ret false) (.op 50004 (.ln (cI .i64) a.Next) (.ps 1000001 [.k [2,3,51,52,53] [10,11]] (.lp2 0 (Gh tA a 0) (fun x1=>.ret false) (fun x2=>.ret true))))))))))) Tryz.func74 (by kernel_rfl) (by kernel_rfl) (by kernel_rfl)
def jA (s1:List Int) (s2:List Int) (i:Nat):St:=⟨26,0,[(0,SL (cI .i64) s1),(1,SL (cI .i64) s2),(12,I ((s1.length:Nat):Int)),(13,I ((i:Nat):Int))],[]⟩
def jr (s1:List Int) (s2:List Int):St:=⟨26,0,[(4,B false)],[]⟩
def jy (s1:List Int) (s2:List Int):St:=⟨26,0,[],[]⟩
def dw (s1:List Int) (s2:List Int) (i:Nat):Option (Nat⊕(Unit⊕Unit)):=
 bif decide (((i:Nat):Int)<((s1.length:Nat):Int)) then
 bif decide (i<s1.length) then
 bif decide (i<s2.length) then
 bif (nth s1 i) != (nth s2 i) then
 some (.inr (.inl ()))
 else
 bif inK .i64 (((i:Nat):Int)+1) then
 some (.inl (i+1))
 else none
 else none
 else none
 else
 some (.inr (.inr ()))
theorem BH (s1:List Int) (s2:List Int):∀σ:Nat,aN Tryz.prog (nav [1,1,0,1,0,0] (ah Tryz.f117)) (fun (σ:Nat)=>jA s1 s2 σ) (fun (y:Unit⊕Unit)=>aC y (fun _=>.ret) (fun _=>(.exit 0))) (fun (y:Unit⊕Unit)=>aC y (fun y=>jr s1 s2) (fun y=>jy s1 s2)) σ (dw s1 s2 σ)
 | i=>aH 1010 (.br 100000014 (.op 60004 (.el (cI .i64) s1 (.up i)) (.op 60012 (.el (cI .i64) s2 (.up i)) (.br 100000024 (.ps 1000003 [.k [4] []] (.ret (.inr (.inl ())))) (.ps 1000003 [.k [0,1,12,13] []] (.ret (.inl (i+1))))))) (.ps 1000003 [.k [] []] (.ret (.inr (.inr ()))))) (by kernel_rfl)
def iI (s1:List Int) (s2:List Int) (i:Nat):Option (Unit⊕Unit):=aK (fun (σ:Nat)=>dw s1 s2 σ) FU i
theorem BK (s1:List Int) (s2:List Int) (i:Nat):∀y:Unit⊕Unit,iI s1 s2 i=some y→Runs Tryz.prog (.loop (nav [1,1,0,1,0,0] (ah Tryz.f117))) (jA s1 s2 i) (aC y (fun _=>.ret) (fun _=>(.exit 0))) ((fun (y:Unit⊕Unit)=>aC y (fun y=>jr s1 s2) (fun y=>jy s1 s2)) y):=
 aX (head:=fun (σ:Nat)=>jA s1 s2 σ) (eo:=fun (y:Unit⊕Unit)=>aC y (fun _=>.ret) (fun _=>(.exit 0))) (so:=fun (y:Unit⊕Unit)=>aC y (fun y=>jr s1 s2) (fun y=>jy s1 s2)) (BH s1 s2) (fun y h=>by rcases y with y | y<;>cases h) FU i
def gV (s1:List Int) (s2:List Int):Option Bool:=
 bif ((s1.length:Nat):Int) != ((s2.length:Nat):Int) then
 some false
 else
 (iI s1 s2 0).bind fun y_=>aC y_ (fun x0=>
 some false)
 (fun x1=>
 some true)
theorem qE (s1:List Int) (s2:List Int):∀r,gV s1 s2=some r→au Tryz.prog 117 0 [SL (cI .i64) s1,SL (cI .i64) s2] [] (B r) []:=
 ay (enc:=fun r=>B r) (aU:=fun r=>[]) 10 (.op 10002 (.ln (cI .i64) s1) (.op 10006 (.ln (cI .i64) s2) (.br 100000010 (.ret false) (.op 30002 (.ln (cI .i64) s1) (.ps 1000001 [.k [0,1,12,13] []] (.lp2 0 (BK s1 s2 0) (fun x0=>.ret false) (fun x1=>.ret true))))))) Tryz.func117 (by kernel_rfl) (by kernel_rfl) (by kernel_rfl)
def AP (d:Dual) (e:Di) (next:List Int) (behind:List Int) (back:List (List Int)) (i:Nat):St:=⟨49,0,[(2,SL (cI .i64) next),(3,SL (cI .i64) behind),(4,SL (cL (cI .i64)) back),(6,.ptr 11 0 0),(14,SL Knot.D d.All),(15,I ((d.All.length:Nat):Int)),(16,I ((i:Nat):Int))],[(11,BOX [I e.from_,I e.to_])]⟩
def Ag (d:Dual) (e:Di) (next:List Int) (behind:List Int) (back:List (List Int)) (i:Nat):St:=⟨49,0,[(10,I ((i:Nat):Int))],[]⟩
def zM (d:Dual) (e:Di) (next:List Int) (behind:List Int) (back:List (List Int)):St:=⟨49,0,[],[]⟩
def kP (d:Dual) (e:Di) (next:List Int) (behind:List Int) (back:List (List Int)) (i:Nat):Option (Nat⊕(Nat⊕Unit)):=
 bif decide (((i:Nat):Int)<((d.All.length:Nat):Int)) then
 bif decide (i<d.All.length) then
 bif !((nth d.All i).Gone) then
 bif ((((nth d.All i).From)==e.from_)&&((((nth d.All i).To)==e.to_)&&true)) then
 (gV ((nth d.All i).Next) next).bind fun x0=>
 bif x0 then
 bif decide (i<back.length) then
 (gV (nth back i) behind).bind fun x1=>
 bif x1 then
 some (.inr (.inl i))
 else
 bif inK .i64 (((i:Nat):Int)+1) then
 some (.inl (i+1))
 else none
 else none
 else
 bif inK .i64 (((i:Nat):Int)+1) then
 some (.inl (i+1))
 else none
 else
 bif inK .i64 (((i:Nat):Int)+1) then
 some (.inl (i+1))
 else none
 else
 bif inK .i64 (((i:Nat):Int)+1) then
 some (.inl (i+1))
 else none
 else none
 else
 some (.inr (.inr ()))
theorem Ry (d:Dual) (e:Di) (next:List Int) (behind:List Int) (back:List (List Int)):∀σ:Nat,aN Tryz.prog (nav [1,0,1,0,0] (ah Tryz.f57)) (fun (σ:Nat)=>AP d e next behind back σ) (fun (y:Nat⊕Unit)=>aC y (fun _=>.ret) (fun _=>(.exit 0))) (fun (y:Nat⊕Unit)=>aC y (fun y=>Ag d e next behind back y) (fun y=>zM d e next behind back)) σ (kP d e next behind back σ)
 | i=>aH 1010 (.br 100000017 (.op 30002 (.el Knot.D d.All (.up i)) (.br 40008 (.br 40026 (.call [] [] (qE ((nth d.All i).Next) next) .no fun x0=>.br 40038 (.op 40042 (.el (cL (cI .i64)) back (.up i)) (.call [] [] (qE (nth back i) behind) .no fun x1=>.br 100000046 (.ps 1000003 [.k [10] []] (.ret (.inr (.inl i)))) (.ps 1000003 [.k [2,3,4,6,14,15,16] [11]] (.ret (.inl (i+1)))))) (.ps 1000003 [.k [2,3,4,6,14,15,16] [11]] (.ret (.inl (i+1))))) (.ps 1000003 [.k [2,3,4,6,14,15,16] [11]] (.ret (.inl (i+1))))) (.ps 1000003 [.k [2,3,4,6,14,15,16] [11]] (.ret (.inl (i+1)))))) (.ps 1000003 [.k [] []] (.ret (.inr (.inr ()))))) (by kernel_rfl)
def Dk (d:Dual) (e:Di) (next:List Int) (behind:List Int) (back:List (List Int)) (i:Nat):Option (Nat⊕Unit):=aK (fun (σ:Nat)=>kP d e next behind back σ) FU i
theorem QU (d:Dual) (e:Di) (next:List Int) (behind:List Int) (back:List (List Int)) (i:Nat):∀y:Nat⊕Unit,Dk d e next behind back i=some y→Runs Tryz.prog (.loop (nav [1,0,1,0,0] (ah Tryz.f57))) (AP d e next behind back i) (aC y (fun _=>.ret) (fun _=>(.exit 0))) ((fun (y:Nat⊕Unit)=>aC y (fun y=>Ag d e next behind back y) (fun y=>zM d e next behind back)) y):=
 aX (head:=fun (σ:Nat)=>AP d e next behind back σ) (eo:=fun (y:Nat⊕Unit)=>aC y (fun _=>.ret) (fun _=>(.exit 0))) (so:=fun (y:Nat⊕Unit)=>aC y (fun y=>Ag d e next behind back y) (fun y=>zM d e next behind back)) (Ry d e next behind back) (fun y h=>by rcases y with y | y<;>cases h) FU i
def Iq (d:Dual) (e:Di) (next:List Int) (behind:List Int) (back:List (List Int)):Option Int:=
 (Dk d e next behind back 0).bind fun y_=>aC y_ (fun x0=>
 some ((x0:Nat):Int))
 (fun x1=>
 some (-1))
theorem VU (d:Dual) (e:Di) (next:List Int) (behind:List Int) (back:List (List Int)):∀r,Iq d e next behind back=some r→au Tryz.prog 57 0 [AG Dual.D d,AG Di.D e,SL (cI .i64) next,SL (cI .i64) behind,SL (cL (cI .i64)) back] [] (I r) []:=
 ay (enc:=fun r=>I r) (aU:=fun r=>[]) 10 (.op 10004 (.ln Knot.D d.All) (.ps 1000001 [.k [2,3,4,6,14,15,16] [11]] (.lp2 0 (QU d e next behind back 0) (fun x0=>.ret ((x0:Nat):Int)) (fun x1=>.ret (-1))))) Tryz.func57 (by kernel_rfl) (by kernel_rfl) (by kernel_rfl)
def iL (s:List Int):Option (List Int):=
 bif decide (0<s.length) then
 bif decide (0+s.length≤2147483648) then
 some ([]++s)
 else none
 else none
theorem oG (s:List Int):∀r,iL s=some r→au Tryz.prog 60 0 [SL (cI .i64) s] [] (.msl 0 0 none none) [(0,ROW 1 (cI .i64) r 0)]:=
 ay (enc:=fun r=>.msl 0 0 none none) (aU:=fun r=>[(0,ROW 1 (cI .i64) r 0)]) 10 (.op 10002 (.ln (cI .i64) s) (.op 30004 (.ap (cI .i64) [] s 1 fun _=>⟨rfl,rfl⟩) (.ps 1000003 [.k [2] [11],.m 11 0] (.ret ([]++s))))) Tryz.func60 (by kernel_rfl) (by kernel_rfl) (by kernel_rfl)
def jk (o0:Int) (x:Int):Option Bool:=
 some (x==o0)
theorem Cm (o0:Int) (x:Int):∀r,jk o0 x=some r→au Tryz.prog 125 1 [I x,.ptr 0 0 0] [(0,BOX [I o0])] (B r) [(0,BOX [I o0])]:=
 ay (enc:=fun r=>B r) (aU:=fun r=>[(0,BOX [I o0])]) 10 (.ret (x==o0)) Tryz.func125 (by kernel_rfl) (by kernel_rfl) (by kernel_rfl)
def iq (o0:Int) (s:List Int) (i:Nat):St:=⟨19,1,[(0,SL (cI .i64) s),(1,.fn (.func 125) [] [.ptr 0 0 0]),(7,I ((s.length:Nat):Int)),(8,I ((i:Nat):Int))],[(0,BOX [I o0])]⟩
def gX (o0:Int) (s:List Int) (i:Nat):St:=⟨19,1,[(4,I ((i:Nat):Int))],[(0,BOX [I o0])]⟩
def gY (o0:Int) (s:List Int):St:=⟨19,1,[],[(0,BOX [I o0])]⟩
def bW (o0:Int) (s:List Int) (i:Nat):Option (Nat⊕(Nat⊕Unit)):=
 bif decide (((i:Nat):Int)<((s.length:Nat):Int)) then
 bif decide (i<s.length) then
 (jk o0 (nth s i)).bind fun x0=>
 bif x0 then
 some (.inr (.inl i))
 else
 bif inK .i64 (((i:Nat):Int)+1) then
 some (.inl (i+1))
 else none
 else none
 else
 some (.inr (.inr ()))
theorem vW (o0:Int) (s:List Int):∀σ:Nat,aN Tryz.prog (nav [1,0,1,0,0] (ah Tryz.f170)) (fun (σ:Nat)=>iq o0 s σ) (fun (y:Nat⊕Unit)=>aC y (fun _=>.ret) (fun _=>(.exit 0))) (fun (y:Nat⊕Unit)=>aC y (fun y=>gX o0 s y) (fun y=>gY o0 s)) σ (bW o0 s σ)
 | i=>aH 1010 (.br 100000009 (.op 40006 (.el (cI .i64) s (.up i)) (.call [0] [] (Cm o0 (nth s i)) .no fun x0=>.br 100000016 (.ps 1000003 [.k [4] [0]] (.ret (.inr (.inl i)))) (.ps 1000003 [.k [0,1,7,8] [0]] (.ret (.inl (i+1)))))) (.ps 1000003 [.k [] [0]] (.ret (.inr (.inr ()))))) (by kernel_rfl)
def fA (o0:Int) (s:List Int) (i:Nat):Option (Nat⊕Unit):=aK (fun (σ:Nat)=>bW o0 s σ) FU i
theorem wF (o0:Int) (s:List Int) (i:Nat):∀y:Nat⊕Unit,fA o0 s i=some y→Runs Tryz.prog (.loop (nav [1,0,1,0,0] (ah Tryz.f170))) (iq o0 s i) (aC y (fun _=>.ret) (fun _=>(.exit 0))) ((fun (y:Nat⊕Unit)=>aC y (fun y=>gX o0 s y) (fun y=>gY o0 s)) y):=
 aX (head:=fun (σ:Nat)=>iq o0 s σ) (eo:=fun (y:Nat⊕Unit)=>aC y (fun _=>.ret) (fun _=>(.exit 0))) (so:=fun (y:Nat⊕Unit)=>aC y (fun y=>gX o0 s y) (fun y=>gY o0 s)) (vW o0 s) (fun y h=>by rcases y with y | y<;>cases h) FU i
def gU (o0:Int) (s:List Int):Option Int:=
 (fA o0 s 0).bind fun y_=>aC y_ (fun x0=>
 some ((x0:Nat):Int))
 (fun x1=>
 some (-1))
theorem yF (o0:Int) (s:List Int):∀r,gU o0 s=some r→au Tryz.prog 170 1 [SL (cI .i64) s,.fn (.func 125) [] [.ptr 0 0 0]] [(0,BOX [I o0])] (I r) [(0,BOX [I o0])]:=
 ay (enc:=fun r=>I r) (aU:=fun r=>[(0,BOX [I o0])]) 10 (.op 10002 (.ln (cI .i64) s) (.ps 1000001 [.k [0,1,7,8] [0]] (.lp2 0 (wF o0 s 0) (fun x0=>.ret ((x0:Nat):Int)) (fun x1=>.ret (-1))))) Tryz.func170 (by kernel_rfl) (by kernel_rfl) (by kernel_rfl)
def gq (o1:Int) (i:Int) (j:Int) (s:List Int):St:=⟨42,2,[(0,.msl 0 0 none none),(1,.fn (.func 125) [] [.ptr 1 0 0]),(5,I i),(6,I j)],[(0,ROW 1 (cI .i64) s 0),(1,BOX [I o1])]⟩
def fV (o1:Int) (i:Int) (s:List Int):St:=⟨42,2,[(0,.msl 0 0 none none),(5,I i)],[(0,ROW 1 (cI .i64) s 0),(1,BOX [I o1])]⟩
def bP (o1:Int) (i:Int) (j:Int) (s:List Int):Option ((Int×Int×List Int)⊕(Int×List Int)):=
 bif decide (j<((s.length:Nat):Int)) then
 bif decide (0≤j) then
 bif decide (j.toNat<s.length) then
 bif decide (j.toNat<s.length) then
 (jk o1 (nth s j.toNat)).bind fun x1=>
 bif !x1 then
 bif decide (0≤i) then
 bif decide (i.toNat<s.length) then
 bif decide (i.toNat<s.length) then
 bif inK .i64 (i+1) then
 bif inK .i64 (j+1) then
 some (.inl (i+1,j+1,s.set i.toNat (nth s j.toNat)))
 else none
 else none
 else none
 else none
 else none
 else
 bif inK .i64 (j+1) then
 some (.inl (i,j+1,s))
 else none
 else none
 else none
 else none
 else
 some (.inr (i,s))
theorem tK (o1:Int):∀σ:Int×Int×List Int,aN Tryz.prog (nav [1,1,1,0,1,0,0] (ah Tryz.f124)) (fun (σ:Int×Int×List Int)=>gq o1 σ.1 σ.2.1 σ.2.2) (fun (_:Int×List Int)=>(.exit 0)) (fun (y:Int×List Int)=>fV o1 y.1 y.2) σ (bP o1 σ.1 σ.2.1 σ.2.2)
 | (i,j,s)=>aH 1010 (.op 50004 (.ln (cI .i64) s) (.br 100000019 (.op 70004 (.el (cI .i64) s .dn) (.op 70006 (.ld (cI .i64) s) (.call [1] [] (Cm o1 (nth s j.toNat)) .no fun x1=>.br 100000029 (.op 90006 (.el (cI .i64) s .dn) (.op 90008 (.st (cI .i64) s (nth s j.toNat)) (.ps 1000003 [.k [0,1,5,6] [0,1]] (.ret (.inl (i+1,j+1,s.set i.toNat (nth s j.toNat))))))) (.ps 1000003 [.k [0,1,5,6] [0,1]] (.ret (.inl (i,j+1,s))))))) (.ps 1000003 [.k [0,5] [0,1]] (.ret (.inr (i,s)))))) (by kernel_rfl)
def eP (o1:Int) (i:Int) (j:Int) (s:List Int):Option (Int×List Int):=aK (fun (σ:Int×Int×List Int)=>bP o1 σ.1 σ.2.1 σ.2.2) FU (i,j,s)
theorem tH (o1:Int) (i:Int) (j:Int) (s:List Int):∀y:Int×List Int,eP o1 i j s=some y→Runs Tryz.prog (.loop (nav [1,1,1,0,1,0,0] (ah Tryz.f124))) (gq o1 i j s) ((.exit 0)) ((fun (y:Int×List Int)=>fV o1 y.1 y.2) y):=
 aX (head:=fun (σ:Int×Int×List Int)=>gq o1 σ.1 σ.2.1 σ.2.2) (eo:=fun (_:Int×List Int)=>(.exit 0)) (so:=fun (y:Int×List Int)=>fV o1 y.1 y.2) (tK o1) (fun _ h=>by cases h) FU (i,j,s)
def jw (o0:List Int) (o1:Int):Option (List Int):=
 (gU o1 o0).bind fun x0=>
 bif x0==(-1) then
 some o0
 else
 bif inK .i64 (x0+1) then
 (eP o1 x0 (x0+1) o0).bind fun x1=>
 bif decide (0≤x1.1) then
 bif decide (x1.1.toNat≤(x1.2.map (cI .i64)).length) then
 bif decide (0+((x1.2.map (cI .i64)).length)≤(x1.2.map (cI .i64)).length) then
 bif decide ((x1.2.map (cI .i64)).length≤(x1.2.map (cI .i64)).length) then
 bif decide (x1.1.toNat<x1.2.length) then
 bif decide (0≤x1.1) then
 bif decide (0≤x1.1.toNat) then
 bif decide (x1.1.toNat≤(x1.2.take x1.1.toNat++List.replicate (x1.2.length-x1.1.toNat) 0).length) then
 some ((x1.2.take x1.1.toNat++List.replicate (x1.2.length-x1.1.toNat) 0).take x1.1.toNat)
 else none
 else none
 else none
 else none
 else none
 else none
 else none
 else none
 else none
theorem xK (o0:List Int) (o1:Int):∀r,jw o0 o1=some r→au Tryz.prog 124 2 [.msl 0 0 none none,.fn (.func 125) [] [.ptr 1 0 0]] [(0,ROW 1 (cI .i64) o0 0),(1,BOX [I o1])] (SL (cI .i64) r) [(1,BOX [I o1])]:=
 ay (enc:=fun r=>SL (cI .i64) r) (aU:=fun r=>[(1,BOX [I o1])]) 10 (.call [1] [] (yF o1 o0) (.yes fun _=>⟨rfl,⟨rfl,trivial⟩⟩) fun x0=>.br 100000012 (.ps 1000003 [.z 4] (.ps 1000003 [.k [4] [1]] (.ret o0))) (.ps 1000001 [.k [0,1,5,6] [0,1]] (.lp1 0 (tH o1 x0 (x0+1) o0) fun x1=>.op 110004 (.sb .dn (.up 0) (.up 0)) (.op 110006 (.st (cI .i64) x1.2 0) (.ps 22 [.z 0,.k [0,5] [1]] (.op 120004 (.sl (cI .i64) (x1.2.take x1.1.toNat++List.replicate (x1.2.length-x1.1.toNat) 0) 1 (fun _=>rfl) (.up 0) .dn) (.ps 1000003 [.k [4] [1]] (.ret ((x1.2.take x1.1.toNat++List.replicate (x1.2.length-x1.1.toNat) 0).take x1.1.toNat))))))))) Tryz.func124 (by kernel_rfl) (by kernel_rfl) (by kernel_rfl)
def jO (l:List Int) (n:Int):Option (List Int):=
 (iL l).bind fun x0=>
 (jw x0 n).bind fun x1=>
 some x1
theorem lT (l:List Int) (n:Int):∀r,jO l n=some r→au Tryz.prog 61 0 [SL (cI .i64) l,I n] [] (SL (cI .i64) r) []:=
 ay (enc:=fun r=>SL (cI .i64) r) (aU:=fun r=>[]) 10 (.call [] [100032] (oG l) .no fun x0=>.call [100032,10] [] (xK x0 n) .no fun x1=>.ret x1) Tryz.func61 (by kernel_rfl) (by kernel_rfl) (by kernel_rfl)
def Bf (d:Dual) (n:Int):Option Bool:=
 bif decide (n≥0) then
 bif decide (n<((d.All.length:Nat):Int)) then
 bif decide (0≤n) then
 bif decide (n.toNat<d.All.length) then
 some (!((nth d.All n.toNat).Gone))
 else none
 else none
 else
 some false
 else
 some false
theorem Jl (d:Dual) (n:Int):∀r,Bf d n=some r→au Tryz.prog 63 0 [AG Dual.D d,I n] [] (B r) []:=
 ay (enc:=fun r=>B r) (aU:=fun r=>[]) 10 (.br 10006 (.op 10012 (.ln Knot.D d.All) (.br 10020 (.op 10026 (.el Knot.D d.All .dn) (.ret (!((nth d.All n.toNat).Gone)))) (.ret false))) (.ret false)) Tryz.func63 (by kernel_rfl) (by kernel_rfl) (by kernel_rfl)
def wO (tA:Dual) (a:Int) (i:Nat):St:=⟨120,0,[(1,I a),(2,.ptr 10 0 0),(5,.ptr 11 0 0),(7,I ((i:Nat):Int))],[(10,BOX [I tA.Ins,I tA.aQ,SL Knot.D tA.All]),(11,BOX [I ((nth tA.All a.toNat).From),I ((nth tA.All a.toNat).To),B (((nth tA.All a.toNat).W).Neg),SL (cI .u32) (((nth tA.All a.toNat).W).Num),SL (cI .u32) (((nth tA.All a.toNat).W).Den),SL (cI .i64) ((nth tA.All a.toNat).Next),B ((nth tA.All a.toNat).Gone)])]⟩
def xO (tA:Dual) (a:Int):St:=⟨120,0,[(4,B false)],[]⟩
def xG (tA:Dual) (a:Int):St:=⟨120,0,[(1,I a),(2,.ptr 10 0 0),(5,.ptr 11 0 0)],[(10,BOX [I tA.Ins,I tA.aQ,SL Knot.D tA.All]),(11,BOX [I ((nth tA.All a.toNat).From),I ((nth tA.All a.toNat).To),B (((nth tA.All a.toNat).W).Neg),SL (cI .u32) (((nth tA.All a.toNat).W).Num),SL (cI .u32) (((nth tA.All a.toNat).W).Den),SL (cI .i64) ((nth tA.All a.toNat).Next),B ((nth tA.All a.toNat).Gone)])]⟩
def jI (tA:Dual) (a:Int) (i:Nat):Option (Nat⊕(Unit⊕Unit)):=
 bif decide (((i:Nat):Int)<((((nth tA.All a.toNat).Next).length:Nat):Int)) then
 bif decide (i<((nth tA.All a.toNat).Next).length) then
 (Bf tA (nth ((nth tA.All a.toNat).Next) i)).bind fun x1=>
 bif !x1 then
 some (.inr (.inl ()))
 else
 bif decide (((i:Nat):Int)>0) then
 bif inK .i64 (((i:Nat):Int)-1) then
 bif decide (0≤((i:Nat):Int)-1) then
 bif decide ((((i:Nat):Int)-1).toNat<((nth tA.All a.toNat).Next).length) then
 bif decide (i<((nth tA.All a.toNat).Next).length) then
 bif decide ((nth ((nth tA.All a.toNat).Next) ((((i:Nat):Int)-1).toNat))≥(nth ((nth tA.All a.toNat).Next) i)) then
 some (.inr (.inl ()))
 else
 bif inK .i64 (((i:Nat):Int)+1) then
 some (.inl (i+1))
 else none
 else none
 else none
 else none
 else none
 else
 bif inK .i64 (((i:Nat):Int)+1) then
 some (.inl (i+1))
 else none
 else none
 else
 some (.inr (.inr ()))
theorem OV (tA:Dual) (a:Int):∀σ:Nat,aN Tryz.prog (nav [1,1,1,1,1,0,1,0,0] (ah Tryz.f82)) (fun (σ:Nat)=>wO tA a σ) (fun (y:Unit⊕Unit)=>aC y (fun _=>.ret) (fun _=>(.exit 0))) (fun (y:Unit⊕Unit)=>aC y (fun y=>xO tA a) (fun y=>xG tA a)) σ (jI tA a σ)
 | i=>aH 1010 (.op 80006 (.ln (cI .i64) ((nth tA.All a.toNat).Next)) (.br 100000080 (.op 100008 (.el (cI .i64) ((nth tA.All a.toNat).Next) (.up i)) (.call [] [] (Jl tA (nth ((nth tA.All a.toNat).Next) i)) .no fun x1=>.br 110006 (.ps 1000003 [.k [4] []] (.ret (.inr (.inl ())))) (.br 110012 (.op 110020 (.el (cI .i64) ((nth tA.All a.toNat).Next) .dn) (.op 110030 (.el (cI .i64) ((nth tA.All a.toNat).Next) (.up i)) (.br 100000109 (.ps 1000003 [.k [4] []] (.ret (.inr (.inl ())))) (.ps 1000003 [.k [1,2,5,7] [10,11]] (.ret (.inl (i+1))))))) (.ps 1000003 [.k [1,2,5,7] [10,11]] (.ret (.inl (i+1))))))) (.ps 1000003 [.k [1,2,5] [10,11]] (.ret (.inr (.inr ())))))) (by kernel_rfl)
def qU (tA:Dual) (a:Int) (i:Nat):Option (Unit⊕Unit):=aK (fun (σ:Nat)=>jI tA a σ) FU i
theorem F7 (tA:Dual) (a:Int) (i:Nat):∀y:Unit⊕Unit,qU tA a i=some y→Runs Tryz.prog (.loop (nav [1,1,1,1,1,0,1,0,0] (ah Tryz.f82))) (wO tA a i) (aC y (fun _=>.ret) (fun _=>(.exit 0))) ((fun (y:Unit⊕Unit)=>aC y (fun y=>xO tA a) (fun y=>xG tA a)) y):=
 aX (head:=fun (σ:Nat)=>wO tA a σ) (eo:=fun (y:Unit⊕Unit)=>aC y (fun _=>.ret) (fun _=>(.exit 0))) (so:=fun (y:Unit⊕Unit)=>aC y (fun y=>xO tA a) (fun y=>xG tA a)) (OV tA a) (fun y h=>by rcases y with y | y<;>cases h) FU i
def DR (l:List Int) (n:Int) (i:Nat):St:=⟨18,0,[(0,SL (cI .i64) l),(1,I n),(5,I ((i:Nat):Int))],[]⟩
def Dx (l:List Int) (n:Int):St:=⟨18,0,[(4,B true)],[]⟩
def DL (l:List Int) (n:Int):St:=⟨18,0,[],[]⟩
def l9 (l:List Int) (n:Int) (i:Nat):Option (Nat⊕(Unit⊕Unit)):=
 bif decide (((i:Nat):Int)<((l.length:Nat):Int)) then
 bif decide (i<l.length) then
 bif (nth l i)==n then
 some (.inr (.inl ()))
 else
 bif inK .i64 (((i:Nat):Int)+1) then
 some (.inl (i+1))
 else none
 else none
 else
 some (.inr (.inr ()))
theorem TG (l:List Int) (n:Int):∀σ:Nat,aN Tryz.prog (nav [1,0,1,0,0] (ah Tryz.f64)) (fun (σ:Nat)=>DR l n σ) (fun (y:Unit⊕Unit)=>aC y (fun _=>.ret) (fun _=>(.exit 0))) (fun (y:Unit⊕Unit)=>aC y (fun y=>Dx l n) (fun y=>DL l n)) σ (l9 l n σ)
 | i=>aH 1010 (.op 20004 (.ln (cI .i64) l) (.br 100000009 (.op 40004 (.el (cI .i64) l (.up i)) (.br 100000017 (.ps 1000003 [.k [4] []] (.ret (.inr (.inl ())))) (.ps 1000003 [.k [0,1,5] []] (.ret (.inl (i+1)))))) (.ps 1000003 [.k [] []] (.ret (.inr (.inr ())))))) (by kernel_rfl)
def E8 (l:List Int) (n:Int) (i:Nat):Option (Unit⊕Unit):=aK (fun (σ:Nat)=>l9 l n σ) FU i
theorem Tq (l:List Int) (n:Int) (i:Nat):∀y:Unit⊕Unit,E8 l n i=some y→Runs Tryz.prog (.loop (nav [1,0,1,0,0] (ah Tryz.f64))) (DR l n i) (aC y (fun _=>.ret) (fun _=>(.exit 0))) ((fun (y:Unit⊕Unit)=>aC y (fun y=>Dx l n) (fun y=>DL l n)) y):=
 aX (head:=fun (σ:Nat)=>DR l n σ) (eo:=fun (y:Unit⊕Unit)=>aC y (fun _=>.ret) (fun _=>(.exit 0))) (so:=fun (y:Unit⊕Unit)=>aC y (fun y=>Dx l n) (fun y=>DL l n)) (TG l n) (fun y h=>by rcases y with y | y<;>cases h) FU i
def zN (l:List Int) (n:Int):Option Bool:=
 (E8 l n 0).bind fun y_=>aC y_ (fun x0=>
 some true)
 (fun x1=>
 some false)
theorem mQ (l:List Int) (n:Int):∀r,zN l n=some r→au Tryz.prog 64 0 [SL (cI .i64) l,I n] [] (B r) []:=
 ay (enc:=fun r=>B r) (aU:=fun r=>[]) 10 (.ps 1000001 [.k [0,1,5] []] (.lp2 0 (Tq l n 0) (fun x0=>.ret true) (fun x1=>.ret false))) Tryz.func64 (by kernel_rfl) (by kernel_rfl) (by kernel_rfl)
def uF (d:Dual) (b:Int) (out:List Int) (i:Nat):St:=⟨29,0,[(1,I b),(2,.ptr 10 0 0),(5,iH 100042 out),(6,I ((i:Nat):Int))],[(10,BOX [I d.Ins,I d.aQ,SL Knot.D d.All]),(100042,je 1 (cI .i64) out)]⟩
def uI (d:Dual) (b:Int) (out:List Int):St:=⟨29,0,[(5,iH 100042 out)],[(100042,je 1 (cI .i64) out)]⟩
def iT (d:Dual) (b:Int) (out:List Int) (i:Nat):Option ((List Int×Nat)⊕(List Int)):=
 bif decide (((i:Nat):Int)<((d.All.length:Nat):Int)) then
 bif decide (i<d.All.length) then
 (zN ((nth d.All i).Next) b).bind fun x0=>
 bif x0 then
 bif decide (out.length+1≤2147483648) then
 bif inK .i64 (((i:Nat):Int)+1) then
 some (.inl (out++[((i:Nat):Int)],i+1))
 else none
 else none
 else
 bif inK .i64 (((i:Nat):Int)+1) then
 some (.inl (out,i+1))
 else none
 else none
 else
 some (.inr out)
theorem Nk (d:Dual) (b:Int):∀σ:List Int×Nat,aN Tryz.prog (nav [1,1,0,1,0,0] (ah Tryz.f66)) (fun (σ:List Int×Nat)=>uF d b σ.1 σ.2) (fun (_:List Int)=>(.exit 0)) (fun (y:List Int)=>uI d b y) σ (iT d b σ.1 σ.2)
 | ([],i)=>aH 1010 (.op 30006 (.ln Knot.D d.All) (.br 100000012 (.op 50006 (.el Knot.D d.All (.up i)) (.call [] [] (mQ ((nth d.All i).Next) b) .no fun x0=>.br 100000023 (.op 70006 (.ap (cI .i64) [] [((i:Nat):Int)] 1 fun _=>⟨rfl,rfl⟩) (.ps 1000003 [.k [1,2,5,6] [10,1011],.m 1011 100042] (.ret (.inl ([((i:Nat):Int)],i+1))))) (.ps 1000003 [.k [1,2,5,6] [10,100042]] (.ret (.inl ([],i+1)))))) (.ps 1000003 [.k [5] [100042]] (.ret (.inr []))))) (by kernel_rfl)
 | (fO::fP,i)=>aH 1010 (.op 30006 (.ln Knot.D d.All) (.br 100000012 (.op 50006 (.el Knot.D d.All (.up i)) (.call [] [] (mQ ((nth d.All i).Next) b) .no fun x0=>.br 100000023 (.op 70006 (.ap (cI .i64) (fO::fP) [((i:Nat):Int)] 1 fun _=>⟨rfl,rfl⟩) (.ps 1000003 [.k [1,2,5,6] [10,1011],.m 1011 100042] (.ret (.inl ((fO::fP)++[((i:Nat):Int)],i+1))))) (.ps 1000003 [.k [1,2,5,6] [10,100042]] (.ret (.inl ((fO::fP),i+1)))))) (.ps 1000003 [.k [5] [100042]] (.ret (.inr (fO::fP)))))) (by kernel_rfl)
def vw (d:Dual) (b:Int) (out:List Int) (i:Nat):Option (List Int):=aK (fun (σ:List Int×Nat)=>iT d b σ.1 σ.2) FU (out,i)
theorem MI (d:Dual) (b:Int) (out:List Int) (i:Nat):∀y:List Int,vw d b out i=some y→Runs Tryz.prog (.loop (nav [1,1,0,1,0,0] (ah Tryz.f66))) (uF d b out i) ((.exit 0)) ((fun (y:List Int)=>uI d b y) y):=
 aX (head:=fun (σ:List Int×Nat)=>uF d b σ.1 σ.2) (eo:=fun (_:List Int)=>(.exit 0)) (so:=fun (y:List Int)=>uI d b y) (Nk d b) (fun _ h=>by cases h) FU (out,i)
def jM (d:Dual) (b:Int):Option (List Int):=
 (vw d b [] 0).bind fun x0=>
 some x0
theorem kV (d:Dual) (b:Int):∀r,jM d b=some r→au Tryz.prog 66 0 [AG Dual.D d,I b] [] (SL (cI .i64) r) []:=
 ay (enc:=fun r=>SL (cI .i64) r) (aU:=fun r=>[]) 10 (.ps 1000001 [.k [1,2,5,6] [10,100042]] (.lp1 0 (MI d b [] 0) fun x0=>.oz 1 5 100042 1 (cI .i64) x0 (.ps 1 [.k [5] []] (.ret x0)))) Tryz.func66 (by kernel_rfl) (by kernel_rfl) (by kernel_rfl)
def EN (tA:Dual) (a:Int):Option Bool:=
 bif decide (0≤a) then
 bif decide (a.toNat<tA.All.length) then
 bif (nth tA.All a.toNat).Gone then
 bif ((nth tA.All a.toNat).From)==(-1) then
 bif ((nth tA.All a.toNat).To)==(-1) then
 bif ((((nth tA.All a.toNat).Next).length:Nat):Int)==0 then
 (qM ((nth tA.All a.toNat).W) (Rat.mk false [] [])).bind fun x0=>
 some x0
 else
 some false
 else
 some false
 else
 some false
 else
 (BQ ((nth tA.All a.toNat).W)).bind fun x0=>
 bif !x0 then
 some false
 else
 bif decide (((nth tA.All a.toNat).From)<(-1)) then
 some false
 else
 bif decide (((nth tA.All a.toNat).From)≥tA.Ins) then
 some false
 else
 bif decide (((nth tA.All a.toNat).To)<(-1)) then
 some false
 else
 bif decide (((nth tA.All a.toNat).To)≥tA.aQ) then
 some false
 else
 bif decide (((nth tA.All a.toNat).To)≥0) then
 bif decide (((((nth tA.All a.toNat).Next).length:Nat):Int)>0) then
 some false
 else
 (qU tA a 0).bind fun y_=>aC y_ (fun x1=>
 some false)
 (fun x2=>
 bif ((nth tA.All a.toNat).From)==(-1) then
 some true
 else
 (jM tA a).bind fun x3=>
 some (((x3.length:Nat):Int)==0))
 else
 (qU tA a 0).bind fun y_=>aC y_ (fun x1=>
 some false)
 (fun x2=>
 bif ((nth tA.All a.toNat).From)==(-1) then
 some true
 else
 (jM tA a).bind fun x3=>
 some (((x3.length:Nat):Int)==0))
 else none
 else none
theorem Tv (tA:Dual) (a:Int):∀r,EN tA a=some r→au Tryz.prog 82 0 [AG Dual.D tA,I a] [] (B r) []:=
 ay (enc:=fun r=>B r) (aU:=fun r=>[]) 10 (.op 10006 (.el Knot.D tA.All .dn) (.br 100000015 (.br 30008 (.br 30018 (.op 30022 (.ln (cI .i64) ((nth tA.All a.toNat).Next)) (.br 30030 (.call [] [] (zy ((nth tA.All a.toNat).W) (Rat.mk false [] [])) .no fun x0=>.ret x0) (.ret false))) (.ret false)) (.ret false)) (.call [] [] (Qg ((nth tA.All a.toNat).W)) .no fun x0=>.br 50006 (.ret false) (.br 50016 (.ret false) (.br 50030 (.ret false) (.br 50040 (.ret false) (.br 50054 (.ret false) (.br 50062 (.op 50066 (.ln (cI .i64) ((nth tA.All a.toNat).Next)) (.br 100000075 (.ret false) (.ps 1000001 [.k [1,2,5,7] [10,11]] (.lp2 0 (F7 tA a 0) (fun x1=>.ret false) (fun x2=>.br 130008 (.ret true) (.call [] [] (kV tA a) .no fun x3=>.op 130014 (.ln (cI .i64) x3) (.ret (((x3.length:Nat):Int)==0)))))))) (.ps 1000001 [.k [1,2,5,7] [10,11]] (.lp2 0 (F7 tA a 0) (fun x1=>.ret false) (fun x2=>.br 130008 (.ret true) (.call [] [] (kV tA a) .no fun x3=>.op 130014 (.ln (cI .i64) x3) (.ret (((x3.length:Nat):Int)==0)))))))))))))) Tryz.func82 (by kernel_rfl) (by kernel_rfl) (by kernel_rfl)
def uf (d:Dual) (i:Nat):St:=⟨46,0,[(1,.ptr 10 0 0),(3,I ((i:Nat):Int))],[(10,BOX [I d.Ins,I d.aQ,SL Knot.D d.All])]⟩
def uY (d:Dual):St:=⟨46,0,[(2,B false)],[]⟩
def uD (d:Dual):St:=⟨46,0,[(1,.ptr 10 0 0)],[(10,BOX [I d.Ins,I d.aQ,SL Knot.D d.All])]⟩
def iU (d:Dual) (i:Nat):Option (Nat⊕(Unit⊕Unit)):=
 bif decide (((i:Nat):Int)<((d.All.length:Nat):Int)) then
 (EN d ((i:Nat):Int)).bind fun x0=>
 bif !x0 then
 some (.inr (.inl ()))
 else
 bif inK .i64 (((i:Nat):Int)+1) then
 some (.inl (i+1))
 else none
 else
 some (.inr (.inr ()))
theorem Nq (d:Dual):∀σ:Nat,aN Tryz.prog (nav [1,1,0,1,0,0] (ah Tryz.f31)) (fun (σ:Nat)=>uf d σ) (fun (y:Unit⊕Unit)=>aC y (fun _=>.ret) (fun _=>(.exit 0))) (fun (y:Unit⊕Unit)=>aC y (fun y=>uY d) (fun y=>uD d)) σ (iU d σ)
 | i=>aH 1010 (.op 40006 (.ln Knot.D d.All) (.br 100000034 (.call [] [] (Tv d ((i:Nat):Int)) .no fun x0=>.br 100000041 (.ps 1000003 [.k [2] []] (.ret (.inr (.inl ())))) (.ps 1000003 [.k [1,3] [10]] (.ret (.inl (i+1))))) (.ps 1000003 [.k [1] [10]] (.ret (.inr (.inr ())))))) (by kernel_rfl)
def vJ (d:Dual) (i:Nat):Option (Unit⊕Unit):=aK (fun (σ:Nat)=>iU d σ) FU i
theorem Nz (d:Dual) (i:Nat):∀y:Unit⊕Unit,vJ d i=some y→Runs Tryz.prog (.loop (nav [1,1,0,1,0,0] (ah Tryz.f31))) (uf d i) (aC y (fun _=>.ret) (fun _=>(.exit 0))) ((fun (y:Unit⊕Unit)=>aC y (fun y=>uY d) (fun y=>uD d)) y):=
 aX (head:=fun (σ:Nat)=>uf d σ) (eo:=fun (y:Unit⊕Unit)=>aC y (fun _=>.ret) (fun _=>(.exit 0))) (so:=fun (y:Unit⊕Unit)=>aC y (fun y=>uY d) (fun y=>uD d)) (Nq d) (fun y h=>by rcases y with y | y<;>cases h) FU i
def pW (tA:Dual) (i:Nat) (i1:Nat) (o1:List Bool) (i2:Bool) (i3:Nat):St:=⟨72,0,[(1,.ptr 10 0 0),(3,.msl 11 0 none (some tA.All.length)),(4,I ((i:Nat):Int)),(5,I ((i1:Nat):Int)),(6,B i2),(7,I ((i3:Nat):Int))],[(10,BOX [I tA.Ins,I tA.aQ,SL Knot.D tA.All]),(11,ROW 1 cB o1 0)]⟩
def qg (tA:Dual) (i:Nat) (i1:Nat) (o1:List Bool) (i2:Bool):St:=⟨72,0,[(1,.ptr 10 0 0),(3,.msl 11 0 none (some tA.All.length)),(4,I ((i:Nat):Int)),(5,I ((i1:Nat):Int)),(6,B i2)],[(10,BOX [I tA.Ins,I tA.aQ,SL Knot.D tA.All]),(11,ROW 1 cB o1 0)]⟩
def gy (tA:Dual) (i:Nat) (i1:Nat) (o1:List Bool) (i2:Bool) (i3:Nat):Option ((Bool×Nat)⊕Bool):=
 bif decide (i1<tA.All.length) then
 bif decide (((i3:Nat):Int)<((((nth tA.All i1).Next).length:Nat):Int)) then
 bif i2 then
 bif decide (i1<tA.All.length) then
 bif decide (i3<((nth tA.All i1).Next).length) then
 bif decide (0≤nth ((nth tA.All i1).Next) i3) then
 bif decide ((nth ((nth tA.All i1).Next) i3).toNat<o1.length) then
 bif decide ((nth ((nth tA.All i1).Next) i3).toNat<o1.length) then
 bif inK .i64 (((i3:Nat):Int)+1) then
 some (.inl (nth o1 ((nth ((nth tA.All i1).Next) i3).toNat),i3+1))
 else none
 else none
 else none
 else none
 else none
 else none
 else
 bif inK .i64 (((i3:Nat):Int)+1) then
 some (.inl (false,i3+1))
 else none
 else
 some (.inr i2)
 else none
theorem Jw (tA:Dual) (i:Nat) (i1:Nat) (o1:List Bool):∀σ:Bool×Nat,aN Tryz.prog (nav [1,1,0,1,0,0,1,0,0,1,0,0,1,0,0,1,1,0,1,0,0] (ah Tryz.f83)) (fun (σ:Bool×Nat)=>pW tA i i1 o1 σ.1 σ.2) (fun (_:Bool)=>(.exit 4)) (fun (y:Bool)=>qg tA i i1 o1 y) σ (gy tA i i1 o1 σ.1 σ.2)
 | (i2,i3)=>aH 3010 (.op 110008 (.el Knot.D tA.All (.up i1)) (.op 110014 (.ln (cI .i64) ((nth tA.All i1).Next)) (.br 100000039 (.br 130004 (.op 130012 (.el Knot.D tA.All (.up i1)) (.op 130020 (.el (cI .i64) ((nth tA.All i1).Next) (.up i3)) (.op 130024 (.el cB o1 .dn) (.op 130026 (.ld cB o1) (.ps 1000003 [.k [1,3,4,5,6,7] [10,11]] (.ret (.inl (nth o1 ((nth ((nth tA.All i1).Next) i3).toNat),i3+1)))))))) (.ps 1000003 [.k [1,3,4,5,6,7] [10,11]] (.ret (.inl (false,i3+1))))) (.ps 1000003 [.k [1,3,4,5,6] [10,11]] (.ret (.inr i2)))))) (by kernel_rfl)
def oW (tA:Dual) (i:Nat) (i1:Nat) (o1:List Bool) (i2:Bool) (i3:Nat):Option Bool:=aK (fun (σ:Bool×Nat)=>gy tA i i1 o1 σ.1 σ.2) FU (i2,i3)
theorem JX (tA:Dual) (i:Nat) (i1:Nat) (o1:List Bool) (i2:Bool) (i3:Nat):∀y:Bool,oW tA i i1 o1 i2 i3=some y→Runs Tryz.prog (.loop (nav [1,1,0,1,0,0,1,0,0,1,0,0,1,0,0,1,1,0,1,0,0] (ah Tryz.f83))) (pW tA i i1 o1 i2 i3) ((.exit 4)) ((fun (y:Bool)=>qg tA i i1 o1 y) y):=
 aX (head:=fun (σ:Bool×Nat)=>pW tA i i1 o1 σ.1 σ.2) (eo:=fun (_:Bool)=>(.exit 4)) (so:=fun (y:Bool)=>qg tA i i1 o1 y) (Jw tA i i1 o1) (fun _ h=>by cases h) FU (i2,i3)
def pY (tA:Dual) (i:Nat) (i1:Nat) (o1:List Bool):St:=⟨72,0,[(1,.ptr 10 0 0),(3,.msl 11 0 none (some tA.All.length)),(4,I ((i:Nat):Int)),(5,I ((i1:Nat):Int))],[(10,BOX [I tA.Ins,I tA.aQ,SL Knot.D tA.All]),(11,ROW 1 cB o1 0)]⟩
def pR (tA:Dual) (i:Nat) (o1:List Bool):St:=⟨72,0,[(1,.ptr 10 0 0),(3,.msl 11 0 none (some tA.All.length)),(4,I ((i:Nat):Int))],[(10,BOX [I tA.Ins,I tA.aQ,SL Knot.D tA.All]),(11,ROW 1 cB o1 0)]⟩
def gu (tA:Dual) (i:Nat) (i1:Nat) (o1:List Bool):Option ((Nat×List Bool)⊕(List Bool)):=
 bif decide (((i1:Nat):Int)<((tA.All.length:Nat):Int)) then
 bif decide (i1<o1.length) then
 bif decide (i1<o1.length) then
 bif nth o1 i1 then
 bif inK .i64 (((i1:Nat):Int)+1) then
 some (.inl (i1+1,o1))
 else none
 else
 (oW tA i i1 o1 true 0).bind fun x0=>
 bif decide (i1<o1.length) then
 bif decide (i1<o1.length) then
 bif inK .i64 (((i1:Nat):Int)+1) then
 some (.inl (i1+1,o1.set i1 x0))
 else none
 else none
 else none
 else none
 else none
 else
 some (.inr o1)
theorem JO (tA:Dual) (i:Nat):∀σ:Nat×List Bool,aN Tryz.prog (nav [1,1,0,1,0,0,1,0,0,1,0,0] (ah Tryz.f83)) (fun (σ:Nat×List Bool)=>pY tA i σ.1 σ.2) (fun (_:List Bool)=>(.exit 2)) (fun (y:List Bool)=>pR tA i y) σ (gu tA i σ.1 σ.2)
 | (i1,o1)=>aH 2010 (.op 60006 (.ln Knot.D tA.All) (.br 100000024 (.op 80004 (.el cB o1 (.up i1)) (.op 80006 (.ld cB o1) (.br 100000030 (.ps 1000003 [.k [1,3,4,5] [10,11]] (.ret (.inl (i1+1,o1)))) (.ps 1000001 [.k [1,3,4,5,6,7] [10,11]] (.lp1 0 (JX tA i i1 o1 true 0) fun x0=>.op 140006 (.el cB o1 (.up i1)) (.op 140008 (.st cB o1 x0) (.ps 1000003 [.k [1,3,4,5] [10,11]] (.ret (.inl (i1+1,o1.set i1 x0)))))))))) (.ps 1000003 [.k [1,3,4] [10,11]] (.ret (.inr o1))))) (by kernel_rfl)
def oU (tA:Dual) (i:Nat) (i1:Nat) (o1:List Bool):Option (List Bool):=aK (fun (σ:Nat×List Bool)=>gu tA i σ.1 σ.2) FU (i1,o1)
theorem JJ (tA:Dual) (i:Nat) (i1:Nat) (o1:List Bool):∀y:List Bool,oU tA i i1 o1=some y→Runs Tryz.prog (.loop (nav [1,1,0,1,0,0,1,0,0,1,0,0] (ah Tryz.f83))) (pY tA i i1 o1) ((.exit 2)) ((fun (y:List Bool)=>pR tA i y) y):=
 aX (head:=fun (σ:Nat×List Bool)=>pY tA i σ.1 σ.2) (eo:=fun (_:List Bool)=>(.exit 2)) (so:=fun (y:List Bool)=>pR tA i y) (JO tA i) (fun _ h=>by cases h) FU (i1,o1)
def tX (tA:Dual) (i:Nat) (o:List Bool):St:=⟨72,0,[(1,.ptr 10 0 0),(3,.msl 11 0 none (some tA.All.length)),(4,I ((i:Nat):Int))],[(10,BOX [I tA.Ins,I tA.aQ,SL Knot.D tA.All]),(11,ROW 1 cB o 0)]⟩
def uh (tA:Dual) (o:List Bool):St:=⟨72,0,[(3,.msl 11 0 none (some tA.All.length))],[(11,ROW 1 cB o 0)]⟩
def kS (tA:Dual) (i:Nat) (o:List Bool):Option ((Nat×List Bool)⊕(List Bool)):=
 bif decide (((i:Nat):Int)<((tA.All.length:Nat):Int)) then
 (oU tA i 0 o).bind fun x0=>
 bif inK .i64 (((i:Nat):Int)+1) then
 some (.inl (i+1,x0))
 else none
 else
 some (.inr o)
theorem MZ (tA:Dual):∀σ:Nat×List Bool,aN Tryz.prog (nav [1,1,0,1,0,0] (ah Tryz.f83)) (fun (σ:Nat×List Bool)=>tX tA σ.1 σ.2) (fun (_:List Bool)=>(.exit 0)) (fun (y:List Bool)=>uh tA y) σ (kS tA σ.1 σ.2)
 | (i,o)=>aH 1010 (.op 30006 (.ln Knot.D tA.All) (.br 100000017 (.ps 1000001 [.k [1,3,4,5] [10,11]] (.lp1 0 (JJ tA i 0 o) fun x0=>.ps 1000003 [.k [1,3,4] [10,11]] (.ret (.inl (i+1,x0))))) (.ps 1000003 [.k [3] [11]] (.ret (.inr o))))) (by kernel_rfl)
def vF (tA:Dual) (i:Nat) (o:List Bool):Option (List Bool):=aK (fun (σ:Nat×List Bool)=>kS tA σ.1 σ.2) FU (i,o)
theorem MC (tA:Dual) (i:Nat) (o:List Bool):∀y:List Bool,vF tA i o=some y→Runs Tryz.prog (.loop (nav [1,1,0,1,0,0] (ah Tryz.f83))) (tX tA i o) ((.exit 0)) ((fun (y:List Bool)=>uh tA y) y):=
 aX (head:=fun (σ:Nat×List Bool)=>tX tA σ.1 σ.2) (eo:=fun (_:List Bool)=>(.exit 0)) (so:=fun (y:List Bool)=>uh tA y) (MZ tA) (fun _ h=>by cases h) FU (i,o)
def pq (tA:Dual) (x0:List Bool) (i:Nat):St:=⟨72,0,[(3,.msl 11 0 none (some tA.All.length)),(8,I ((i:Nat):Int))],[(11,ROW 1 cB x0 0)]⟩
def pO (tA:Dual) (x0:List Bool):St:=⟨72,0,[(2,B true)],[]⟩
def pU (tA:Dual) (x0:List Bool):St:=⟨72,0,[],[]⟩
def fZ (tA:Dual) (x0:List Bool) (i:Nat):Option (Nat⊕(Unit⊕Unit)):=
 bif decide (((i:Nat):Int)<((x0.length:Nat):Int)) then
 bif decide (i<x0.length) then
 bif decide (i<x0.length) then
 bif !(nth x0 i) then
 some (.inr (.inl ()))
 else
 bif inK .i64 (((i:Nat):Int)+1) then
 some (.inl (i+1))
 else none
 else none
 else none
 else
 some (.inr (.inr ()))
theorem Jq (tA:Dual) (x0:List Bool):∀σ:Nat,aN Tryz.prog (nav [1,1,1,0,1,0,0] (ah Tryz.f83)) (fun (σ:Nat)=>pq tA x0 σ) (fun (y:Unit⊕Unit)=>aC y (fun _=>.ret) (fun _=>(.exit 6))) (fun (y:Unit⊕Unit)=>aC y (fun y=>pO tA x0) (fun y=>pU tA x0)) σ (fZ tA x0 σ)
 | i=>aH 1010 (.op 160004 (.ln cB x0) (.br 100000064 (.op 180004 (.el cB x0 (.up i)) (.op 180006 (.ld cB x0) (.br 100000071 (.ps 1000003 [.k [2] []] (.ret (.inr (.inl ())))) (.ps 1000003 [.k [3,8] [11]] (.ret (.inl (i+1))))))) (.ps 1000003 [.k [] []] (.ret (.inr (.inr ())))))) (by kernel_rfl)
def oV (tA:Dual) (x0:List Bool) (i:Nat):Option (Unit⊕Unit):=aK (fun (σ:Nat)=>fZ tA x0 σ) FU i
theorem JU (tA:Dual) (x0:List Bool) (i:Nat):∀y:Unit⊕Unit,oV tA x0 i=some y→Runs Tryz.prog (.loop (nav [1,1,1,0,1,0,0] (ah Tryz.f83))) (pq tA x0 i) (aC y (fun _=>.ret) (fun _=>(.exit 6))) ((fun (y:Unit⊕Unit)=>aC y (fun y=>pO tA x0) (fun y=>pU tA x0)) y):=
 aX (head:=fun (σ:Nat)=>pq tA x0 σ) (eo:=fun (y:Unit⊕Unit)=>aC y (fun _=>.ret) (fun _=>(.exit 6))) (so:=fun (y:Unit⊕Unit)=>aC y (fun y=>pO tA x0) (fun y=>pU tA x0)) (Jq tA x0) (fun y h=>by rcases y with y | y<;>cases h) FU i
def wE (tA:Dual):Option Bool:=
 bif decide (tA.All.length≤2147483648) then
 (vF tA 0 (List.replicate tA.All.length false)).bind fun x0=>
 (oV tA x0 0).bind fun y_=>aC y_ (fun x1=>
 some true)
 (fun x2=>
 some false)
 else none
theorem QM (tA:Dual):∀r,wE tA=some r→au Tryz.prog 83 0 [AG Dual.D tA] [] (B r) []:=
 ay (enc:=fun r=>B r) (aU:=fun r=>[]) 10 (.op 10004 (.ln Knot.D tA.All) (.op 10006 (.mk cB false (.up tA.All.length)) (.ps 1000001 [.k [1,3,4] [10,11]] (.lp1 0 (MC tA 0 (List.replicate tA.All.length false)) fun x0=>.ps 1000001 [.k [3,8] [11]] (.lp2 0 (JU tA x0 0) (fun x1=>.ret true) (fun x2=>.ret false)))))) Tryz.func83 (by kernel_rfl) (by kernel_rfl) (by kernel_rfl)
def mV (d:Dual):Option Bool:=
 bif decide (d.Ins<1) then
 some false
 else
 bif decide (d.Ins>40) then
 some false
 else
 bif decide (d.aQ<1) then
 some false
 else
 bif decide (d.aQ>40) then
 some false
 else
 bif decide (((d.All.length:Nat):Int)>20000) then
 some false
 else
 (vJ d 0).bind fun y_=>aC y_ (fun x0=>
 some false)
 (fun x1=>
 (wE d).bind fun x2=>
 some (!x2))
theorem QA (d:Dual):∀r,mV d=some r→au Tryz.prog 31 0 [AG Dual.D d] [] (B r) []:=
 ay (enc:=fun r=>B r) (aU:=fun r=>[]) 10 (.br 10008 (.ret false) (.br 10018 (.ret false) (.br 10028 (.ret false) (.br 10038 (.ret false) (.op 10042 (.ln Knot.D d.All) (.br 100000029 (.ret false) (.ps 1000001 [.k [1,3] [10]] (.lp2 0 (Nz d 0) (fun x0=>.ret false) (fun x1=>.call [] [] (QM d) .no fun x2=>.ret (!x2)))))))))) Tryz.func31 (by kernel_rfl) (by kernel_rfl) (by kernel_rfl)
def wZ (tA:Dual) (a:Int) (a1:Int) (x0:List Int) (i:Nat):St:=⟨70,0,[(3,.ptr 10 0 0),(7,.ptr 11 0 0),(8,.ptr 12 0 0),(9,SL (cI .i64) x0),(10,I ((i:Nat):Int))],[(10,BOX [I tA.Ins,I tA.aQ,SL Knot.D tA.All]),(11,BOX [I ((nth tA.All a.toNat).From),I ((nth tA.All a.toNat).To),B (((nth tA.All a.toNat).W).Neg),SL (cI .u32) (((nth tA.All a.toNat).W).Num),SL (cI .u32) (((nth tA.All a.toNat).W).Den),SL (cI .i64) ((nth tA.All a.toNat).Next),B ((nth tA.All a.toNat).Gone)]),(12,BOX [I ((nth tA.All a1.toNat).From),I ((nth tA.All a1.toNat).To),B (((nth tA.All a1.toNat).W).Neg),SL (cI .u32) (((nth tA.All a1.toNat).W).Num),SL (cI .u32) (((nth tA.All a1.toNat).W).Den),SL (cI .i64) ((nth tA.All a1.toNat).Next),B ((nth tA.All a1.toNat).Gone)])]⟩
def xW (tA:Dual) (a:Int) (a1:Int) (x0:List Int) (i:Nat):St:=⟨70,0,[(6,I ((i:Nat):Int))],[]⟩
def xg (tA:Dual) (a:Int) (a1:Int) (x0:List Int):St:=⟨70,0,[],[]⟩
def jL (tA:Dual) (a:Int) (a1:Int) (x0:List Int) (i:Nat):Option (Nat⊕(Nat⊕Unit)):=
 bif decide (((i:Nat):Int)<((tA.All.length:Nat):Int)) then
 bif decide (i<tA.All.length) then
 bif (nth tA.All i).Gone then
 bif inK .i64 (((i:Nat):Int)+1) then
 some (.inl (i+1))
 else none
 else
 bif ((nth tA.All i).From) != ((nth tA.All a.toNat).From) then
 bif inK .i64 (((i:Nat):Int)+1) then
 some (.inl (i+1))
 else none
 else
 bif ((nth tA.All i).To) != ((nth tA.All a1.toNat).To) then
 bif inK .i64 (((i:Nat):Int)+1) then
 some (.inl (i+1))
 else none
 else
 (uZ ((nth tA.All i).Next) ((nth tA.All a1.toNat).Next)).bind fun x1=>
 (jM tA ((i:Nat):Int)).bind fun x2=>
 (uZ x2 x0).bind fun x3=>
 bif x1 then
 bif x3 then
 some (.inr (.inl i))
 else
 bif inK .i64 (((i:Nat):Int)+1) then
 some (.inl (i+1))
 else none
 else
 bif inK .i64 (((i:Nat):Int)+1) then
 some (.inl (i+1))
 else none
 else none
 else
 some (.inr (.inr ()))
theorem OU (tA:Dual) (a:Int) (a1:Int) (x0:List Int):∀σ:Nat,aN Tryz.prog (nav [1,1,1,1,0,1,0,0] (ah Tryz.f65)) (fun (σ:Nat)=>wZ tA a a1 x0 σ) (fun (y:Nat⊕Unit)=>aC y (fun _=>.ret) (fun _=>(.exit 0))) (fun (y:Nat⊕Unit)=>aC y (fun y=>xW tA a a1 x0 y) (fun y=>xg tA a a1 x0)) σ (jL tA a a1 x0 σ)
 | i=>aH 1010 (.op 50006 (.ln Knot.D tA.All) (.br 100000031 (.op 70006 (.el Knot.D tA.All (.up i)) (.br 80006 (.ps 1000003 [.k [3,7,8,9,10] [10,11,12]] (.ret (.inl (i+1)))) (.br 80020 (.ps 1000003 [.k [3,7,8,9,10] [10,11,12]] (.ret (.inl (i+1)))) (.br 100000054 (.ps 1000003 [.k [3,7,8,9,10] [10,11,12]] (.ret (.inl (i+1)))) (.call [] [] (Dz ((nth tA.All i).Next) ((nth tA.All a1.toNat).Next)) .no fun x1=>.call [] [] (kV tA ((i:Nat):Int)) .no fun x2=>.call [] [] (Dz x2 x0) .no fun x3=>.br 110004 (.br 100000068 (.ps 1000003 [.k [6] []] (.ret (.inr (.inl i)))) (.ps 1000003 [.k [3,7,8,9,10] [10,11,12]] (.ret (.inl (i+1))))) (.ps 1000003 [.k [3,7,8,9,10] [10,11,12]] (.ret (.inl (i+1))))))))) (.ps 1000003 [.k [] []] (.ret (.inr (.inr ())))))) (by kernel_rfl)
def yV (tA:Dual) (a:Int) (a1:Int) (x0:List Int) (i:Nat):Option (Nat⊕Unit):=aK (fun (σ:Nat)=>jL tA a a1 x0 σ) FU i
theorem OG (tA:Dual) (a:Int) (a1:Int) (x0:List Int) (i:Nat):∀y:Nat⊕Unit,yV tA a a1 x0 i=some y→Runs Tryz.prog (.loop (nav [1,1,1,1,0,1,0,0] (ah Tryz.f65))) (wZ tA a a1 x0 i) (aC y (fun _=>.ret) (fun _=>(.exit 0))) ((fun (y:Nat⊕Unit)=>aC y (fun y=>xW tA a a1 x0 y) (fun y=>xg tA a a1 x0)) y):=
 aX (head:=fun (σ:Nat)=>wZ tA a a1 x0 σ) (eo:=fun (y:Nat⊕Unit)=>aC y (fun _=>.ret) (fun _=>(.exit 0))) (so:=fun (y:Nat⊕Unit)=>aC y (fun y=>xW tA a a1 x0 y) (fun y=>xg tA a a1 x0)) (OU tA a a1 x0) (fun y h=>by rcases y with y | y<;>cases h) FU i
def Fp (tA:Dual) (a:Int) (a1:Int):Option Int:=
 bif decide (0≤a) then
 bif decide (a.toNat<tA.All.length) then
 bif decide (0≤a1) then
 bif decide (a1.toNat<tA.All.length) then
 (jM tA a).bind fun x0=>
 (yV tA a a1 x0 0).bind fun y_=>aC y_ (fun x1=>
 some ((x1:Nat):Int))
 (fun x2=>
 some (-1))
 else none
 else none
 else none
 else none
theorem Tj (tA:Dual) (a:Int) (a1:Int):∀r,Fp tA a a1=some r→au Tryz.prog 65 0 [AG Dual.D tA,I a,I a1] [] (I r) []:=
 ay (enc:=fun r=>I r) (aU:=fun r=>[]) 10 (.op 10006 (.el Knot.D tA.All .dn) (.op 20006 (.el Knot.D tA.All .dn) (.call [] [] (kV tA a) .no fun x0=>.ps 1000001 [.k [3,7,8,9,10] [10,11,12]] (.lp2 0 (OG tA a a1 x0 0) (fun x1=>.ret ((x1:Nat):Int)) (fun x2=>.ret (-1)))))) Tryz.func65 (by kernel_rfl) (by kernel_rfl) (by kernel_rfl)
def xC (tA:Dual) (a:Dual) (i:Nat):St:=⟨85,0,[(2,.ptr 10 0 0),(3,.ptr 11 0 0),(5,I ((i:Nat):Int))],[(10,BOX [I tA.Ins,I tA.aQ,SL Knot.D tA.All]),(11,BOX [I a.Ins,I a.aQ,SL Knot.D a.All])]⟩
def xq (tA:Dual) (a:Dual):St:=⟨85,0,[(4,B false)],[]⟩
def xI (tA:Dual) (a:Dual):St:=⟨85,0,[],[]⟩
def lU (tA:Dual) (a:Dual) (i:Nat):Option (Nat⊕(Unit⊕Unit)):=
 bif decide (((i:Nat):Int)<((tA.All.length:Nat):Int)) then
 bif decide (i<tA.All.length) then
 bif decide (i<a.All.length) then
 (uZ ((nth tA.All i).Next) ((nth a.All i).Next)).bind fun x0=>
 (qM ((nth tA.All i).W) ((nth a.All i).W)).bind fun x1=>
 bif !x0 then
 some (.inr (.inl ()))
 else
 bif !x1 then
 some (.inr (.inl ()))
 else
 bif ((nth tA.All i).From) != ((nth a.All i).From) then
 some (.inr (.inl ()))
 else
 bif ((nth tA.All i).To) != ((nth a.All i).To) then
 some (.inr (.inl ()))
 else
 bif !(((nth tA.All i).Gone)==((nth a.All i).Gone)) then
 some (.inr (.inl ()))
 else
 bif inK .i64 (((i:Nat):Int)+1) then
 some (.inl (i+1))
 else none
 else none
 else none
 else
 some (.inr (.inr ()))
theorem Oy (tA:Dual) (a:Dual):∀σ:Nat,aN Tryz.prog (nav [1,1,0,1,0,0] (ah Tryz.f19)) (fun (σ:Nat)=>xC tA a σ) (fun (y:Unit⊕Unit)=>aC y (fun _=>.ret) (fun _=>(.exit 0))) (fun (y:Unit⊕Unit)=>aC y (fun y=>xq tA a) (fun y=>xI tA a)) σ (lU tA a σ)
 | i=>aH 1010 (.op 40006 (.ln Knot.D tA.All) (.br 100000035 (.op 60006 (.el Knot.D tA.All (.up i)) (.op 70006 (.el Knot.D a.All (.up i)) (.call [] [] (Dz ((nth tA.All i).Next) ((nth a.All i).Next)) .no fun x0=>.call [] [] (zy ((nth tA.All i).W) ((nth a.All i).W)) .no fun x1=>.br 100006 (.ps 1000003 [.k [4] []] (.ret (.inr (.inl ())))) (.br 100014 (.ps 1000003 [.k [4] []] (.ret (.inr (.inl ())))) (.br 100028 (.ps 1000003 [.k [4] []] (.ret (.inr (.inl ())))) (.br 100042 (.ps 1000003 [.k [4] []] (.ret (.inr (.inl ())))) (.br 100000084 (.ps 1000003 [.k [4] []] (.ret (.inr (.inl ())))) (.ps 1000003 [.k [2,3,5] [10,11]] (.ret (.inl (i+1))))))))))) (.ps 1000003 [.k [] []] (.ret (.inr (.inr ())))))) (by kernel_rfl)
def yK (tA:Dual) (a:Dual) (i:Nat):Option (Unit⊕Unit):=aK (fun (σ:Nat)=>lU tA a σ) FU i
theorem Ov (tA:Dual) (a:Dual) (i:Nat):∀y:Unit⊕Unit,yK tA a i=some y→Runs Tryz.prog (.loop (nav [1,1,0,1,0,0] (ah Tryz.f19))) (xC tA a i) (aC y (fun _=>.ret) (fun _=>(.exit 0))) ((fun (y:Unit⊕Unit)=>aC y (fun y=>xq tA a) (fun y=>xI tA a)) y):=
 aX (head:=fun (σ:Nat)=>xC tA a σ) (eo:=fun (y:Unit⊕Unit)=>aC y (fun _=>.ret) (fun _=>(.exit 0))) (so:=fun (y:Unit⊕Unit)=>aC y (fun y=>xq tA a) (fun y=>xI tA a)) (Oy tA a) (fun y h=>by rcases y with y | y<;>cases h) FU i
def zJ (tA:Dual) (a:Dual):Option Bool:=
 bif tA.Ins != a.Ins then
 some false
 else
 bif tA.aQ != a.aQ then
 some false
 else
 bif ((tA.All.length:Nat):Int) != ((a.All.length:Nat):Int) then
 some false
 else
 (yK tA a 0).bind fun y_=>aC y_ (fun x0=>
 some false)
 (fun x1=>
 some true)
theorem Jc (tA:Dual) (a:Dual):∀r,zJ tA a=some r→au Tryz.prog 19 0 [AG Dual.D tA,AG Dual.D a] [] (B r) []:=
 ay (enc:=fun r=>B r) (aU:=fun r=>[]) 10 (.br 10012 (.ret false) (.br 10026 (.ret false) (.op 10030 (.ln Knot.D tA.All) (.op 10036 (.ln Knot.D a.All) (.br 100000030 (.ret false) (.ps 1000001 [.k [2,3,5] [10,11]] (.lp2 0 (Ov tA a 0) (fun x0=>.ret false) (fun x1=>.ret true)))))))) Tryz.func19 (by kernel_rfl) (by kernel_rfl) (by kernel_rfl)
def Au (d:Dual) (i:Nat):St:=⟨46,0,[(1,.ptr 10 0 0),(3,I ((i:Nat):Int))],[(10,BOX [I d.Ins,I d.aQ,SL Knot.D d.All])]⟩
def zZ (d:Dual):St:=⟨46,0,[(2,B false)],[]⟩
def zS (d:Dual):St:=⟨46,0,[],[]⟩
def jf (d:Dual) (i:Nat):Option (Nat⊕(Unit⊕Unit)):=
 bif decide (((i:Nat):Int)<((d.All.length:Nat):Int)) then
 bif decide (i<d.All.length) then
 (Em [(nth d.All i).W] 2).bind fun x0=>
 bif !x0 then
 some (.inr (.inl ()))
 else
 bif decide (i<d.All.length) then
 bif decide (((((nth d.All i).Next).length:Nat):Int)>14) then
 some (.inr (.inl ()))
 else
 bif inK .i64 (((i:Nat):Int)+1) then
 some (.inl (i+1))
 else none
 else none
 else none
 else
 some (.inr (.inr ()))
theorem PW (d:Dual):∀σ:Nat,aN Tryz.prog (nav [1,1,0,1,0,0] (ah Tryz.f16)) (fun (σ:Nat)=>Au d σ) (fun (y:Unit⊕Unit)=>aC y (fun _=>.ret) (fun _=>(.exit 0))) (fun (y:Unit⊕Unit)=>aC y (fun y=>zZ d) (fun y=>zS d)) σ (jf d σ)
 | i=>aH 1010 (.op 40006 (.ln Knot.D d.All) (.br 100000023 (.op 60006 (.el Knot.D d.All (.up i)) (.call [] [] (UN [(nth d.All i).W] 2) (.yes fun _=>⟨rfl,trivial⟩) fun x0=>.br 70006 (.ps 1000003 [.k [2] []] (.ret (.inr (.inl ())))) (.op 70012 (.el Knot.D d.All (.up i)) (.op 70018 (.ln (cI .i64) ((nth d.All i).Next)) (.br 100000045 (.ps 1000003 [.k [2] []] (.ret (.inr (.inl ())))) (.ps 1000003 [.k [1,3] [10]] (.ret (.inl (i+1))))))))) (.ps 1000003 [.k [] []] (.ret (.inr (.inr ())))))) (by kernel_rfl)
def Ce (d:Dual) (i:Nat):Option (Unit⊕Unit):=aK (fun (σ:Nat)=>jf d σ) FU i
theorem Qx (d:Dual) (i:Nat):∀y:Unit⊕Unit,Ce d i=some y→Runs Tryz.prog (.loop (nav [1,1,0,1,0,0] (ah Tryz.f16))) (Au d i) (aC y (fun _=>.ret) (fun _=>(.exit 0))) ((fun (y:Unit⊕Unit)=>aC y (fun y=>zZ d) (fun y=>zS d)) y):=
 aX (head:=fun (σ:Nat)=>Au d σ) (eo:=fun (y:Unit⊕Unit)=>aC y (fun _=>.ret) (fun _=>(.exit 0))) (so:=fun (y:Unit⊕Unit)=>aC y (fun y=>zZ d) (fun y=>zS d)) (PW d) (fun y h=>by rcases y with y | y<;>cases h) FU i
def EC (d:Dual):Option Bool:=
 bif decide (d.Ins>4) then
 some false
 else
 bif decide (d.aQ>4) then
 some false
 else
 bif decide (((d.All.length:Nat):Int)>14) then
 some false
 else
 (Ce d 0).bind fun y_=>aC y_ (fun x0=>
 some false)
 (fun x1=>
 some true)
theorem Vu (d:Dual):∀r,EC d=some r→au Tryz.prog 16 0 [AG Dual.D d] [] (B r) []:=
 ay (enc:=fun r=>B r) (aU:=fun r=>[]) 10 (.br 10008 (.ret false) (.br 10018 (.ret false) (.op 10022 (.ln Knot.D d.All) (.br 100000018 (.ret false) (.ps 1000001 [.k [1,3] [10]] (.lp2 0 (Qx d 0) (fun x0=>.ret false) (fun x1=>.ret true))))))) Tryz.func16 (by kernel_rfl) (by kernel_rfl) (by kernel_rfl)
end Go.Ab.M
