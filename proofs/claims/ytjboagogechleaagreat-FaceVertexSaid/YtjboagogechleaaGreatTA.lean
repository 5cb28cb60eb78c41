import Derived.Test.YtjboagogechleaaGreatCL
namespace Go.Ab.M
open Go.Proofs
set_option linter.unusedVariables false
set_option linter.defProp false
set_option maxRecDepth 100000
def UC (a:List Int) (b:List Int) (i:Nat):St:=⟨26,0,[(0,SL K4 a),(1,SL K4 b),(5,I (i:Int))],[]⟩
def UK (a:List Int) (b:List Int):St:=⟨26,0,[(4,B false)],[]⟩
def Vd (a:List Int) (b:List Int):St:=⟨26,0,[],[]⟩
def kT (a:List Int) (b:List Int) (i:Nat):Option (Nat⊕(Unit⊕Unit)):=bif decide ((i:Int)<(a.length:Int)) then G1 (i<a.length)<|G1 (i<b.length)<|bif (nth a i) != (nth b i) then some (.inr (.inl ())) else G3 ((i:Int)+1)<|some (.inl (i+1)) else some (.inr (.inr ()))
theorem UQ (a:List Int) (b:List Int):∀σ:Nat,aP Tryz.prog (nav [1,1,0,1,0,0] (aj Tryz.f70)) (fun (σ:Nat)=>UC a b σ) (fun (y:Unit⊕Unit)=>bf y (fun _=>.ret) (fun _=>(.exit 0))) (fun (y:Unit⊕Unit)=>bf y (fun y=>UK a b) (fun y=>Vd a b)) σ (kT a b σ)
 | i=>aK 1010 (.op 40004 (.ln K4 a) (.br 100000014 (.op 60004 (.el K4 a (.up i)) (.op 60012 (.el K4 b (.up i)) (.br 100000025 (G4 [4] [] (.ret (.inr (.inl ())))) (G4 [0,1,5] [] (.ret (.inl (i+1))))))) (G4 [] [] (.ret (.inr (.inr ()))))))
def NJ (a:List Int) (b:List Int) (i:Nat):Option (Unit⊕Unit):=aN (fun (σ:Nat)=>kT a b σ) FU i
def Vm (a:List Int) (b:List Int) (i:Nat):=
 aU (UQ a b) (fun y h=>by rcases y with y | y<;>cases h) FU i
def wO (a:List Int) (b:List Int):Option Bool:=bif (a.length:Int) != (b.length:Int) then some false else (NJ a b 0).bind fun y_=>bf y_ (fun x0=>some false) (fun x1=>some true)
theorem Zx (a:List Int) (b:List Int):∀r,wO a b=some r->ak Tryz.prog 70 0 [SL K4 a,SL K4 b] [] (B r) []:=
 ay 10 (.op 10002 (.ln K4 a) (.op 10006 (.ln K4 b) (.br 100000010 (.ret false) (K3 [0,1,5] [] (.lp2 0 (Vm a b 0) (fun x0=>.ret false) (fun x1=>.ret true)))))) Tryz.func70
def bQ:ByteArray:=⟨#[0,1,2,2,3,3,3,3,4,4,4,4,4,4,4,4,5,5,5,5,5,5,5,5,5,5,5,5,5,5,5,5,6,6,6,6,6,6,6,6,6,6,6,6,6,6,6,6,6,6,6,6,6,6,6,6,6,6,6,6,6,6,6,6,7,7,7,7,7,7,7,7,7,7,7,7,7,7,7,7,7,7,7,7,7,7,7,7,7,7,7,7,7,7,7,7,7,7,7,7,7,7,7,7,7,7,7,7,7,7,7,7,7,7,7,7,7,7,7,7,7,7,7,7,7,7,7,7,8,8,8,8,8,8,8,8,8,8,8,8,8,8,8,8,8,8,8,8,8,8,8,8,8,8,8,8,8,8,8,8,8,8,8,8,8,8,8,8,8,8,8,8,8,8,8,8,8,8,8,8,8,8,8,8,8,8,8,8,8,8,8,8,8,8,8,8,8,8,8,8,8,8,8,8,8,8,8,8,8,8,8,8,8,8,8,8,8,8,8,8,8,8,8,8,8,8,8,8,8,8,8,8,8,8,8,8,8,8,8,8,8,8,8,8,8,8,8,8,8,8,8,8,8,8,8,8]⟩
def GH (x:Int):Option Int:=let y0:=bM .u64 x 32;let y7:=((bQ.get! ((IntKind.wrap .u8 y0).toNat)).toNat:Int);let y8:=((bQ.get! ((IntKind.wrap .u8 x).toNat)).toNat:Int);let y9:=bM .u64 y0 16;let y3:=((bQ.get! ((IntKind.wrap .u8 y9).toNat)).toNat:Int);let y10:=bM .u64 x 16;let y5:=((bQ.get! ((IntKind.wrap .u8 y10).toNat)).toNat:Int);let y12:=bM .u64 y10 8;let y2:=((bQ.get! ((IntKind.wrap .u8 y12).toNat)).toNat:Int);let y13:=((0+16)+8)+y2;let y14:=bM .u64 y9 8;let y1:=((bQ.get! ((IntKind.wrap .u8 y14).toNat)).toNat:Int);let y11:=((32+16)+8)+y1;let y15:=bM .u64 y0 8;let y4:=((bQ.get! ((IntKind.wrap .u8 y15).toNat)).toNat:Int);let y16:=bM .u64 x 8;let y6:=((bQ.get! ((IntKind.wrap .u8 y16).toNat)).toNat:Int);let y17:=(32+16)+y3;bif decide (x>=4294967296) then bif decide (y0>=65536) then bif decide (y9>=256) then G1 (0<=IntKind.wrap .u8 y14)<|G1 ((IntKind.wrap .u8 y14).toNat<bQ.size)<|G3 y1<|G3 y11<|some y11 else G1 (0<=IntKind.wrap .u8 y9)<|G1 ((IntKind.wrap .u8 y9).toNat<bQ.size)<|G3 y3<|G3 y17<|some y17 else bif decide (y0>=256) then G1 (0<=IntKind.wrap .u8 y15)<|G1 ((IntKind.wrap .u8 y15).toNat<bQ.size)<|G3 y4<|G3 ((32+8)+y4)<|some ((32+8)+y4) else G1 (0<=IntKind.wrap .u8 y0)<|G1 ((IntKind.wrap .u8 y0).toNat<bQ.size)<|G3 y7<|G3 (32+y7)<|some (32+y7) else bif decide (x>=65536) then bif decide (y10>=256) then G1 (0<=IntKind.wrap .u8 y12)<|G1 ((IntKind.wrap .u8 y12).toNat<bQ.size)<|G3 y2<|G3 y13<|some y13 else G1 (0<=IntKind.wrap .u8 y10)<|G1 ((IntKind.wrap .u8 y10).toNat<bQ.size)<|G3 y5<|G3 ((0+16)+y5)<|some ((0+16)+y5) else bif decide (x>=256) then G1 (0<=IntKind.wrap .u8 y16)<|G1 ((IntKind.wrap .u8 y16).toNat<bQ.size)<|G3 y6<|G3 ((0+8)+y6)<|some ((0+8)+y6) else G1 (0<=IntKind.wrap .u8 x)<|G1 ((IntKind.wrap .u8 x).toNat<bQ.size)<|G3 y8<|G3 (0+y8)<|some (0+y8)
theorem Lr (x:Int):∀r,GH x=some r->ak Tryz.prog 193 0 [NI .u64 x] [] (I r) []:=
 let y0:=bM .u64 x 32;let y1:=bM .u64 y0 16;let y2:=bM .u64 x 16;ay 10 (.br 100000004 (.br 100000008 (.br 100000014 (.op 100004 .wr (.op 100006 (.ch bQ .dn) (.ret (((32+16)+8)+((bQ.get! ((IntKind.wrap .u8 (bM .u64 y1 8)).toNat)).toNat:Int))))) (.op 100004 .wr (.op 100006 (.ch bQ .dn) (.ret ((32+16)+((bQ.get! ((IntKind.wrap .u8 y1).toNat)).toNat:Int)))))) (.br 100000014 (.op 100004 .wr (.op 100006 (.ch bQ .dn) (.ret ((32+8)+((bQ.get! ((IntKind.wrap .u8 (bM .u64 y0 8)).toNat)).toNat:Int))))) (.op 100004 .wr (.op 100006 (.ch bQ .dn) (.ret (32+((bQ.get! ((IntKind.wrap .u8 y0).toNat)).toNat:Int))))))) (.br 100000008 (.br 100000014 (.op 100004 .wr (.op 100006 (.ch bQ .dn) (.ret (((0+16)+8)+((bQ.get! ((IntKind.wrap .u8 (bM .u64 y2 8)).toNat)).toNat:Int))))) (.op 100004 .wr (.op 100006 (.ch bQ .dn) (.ret ((0+16)+((bQ.get! ((IntKind.wrap .u8 y2).toNat)).toNat:Int)))))) (.br 100000014 (.op 100004 .wr (.op 100006 (.ch bQ .dn) (.ret ((0+8)+((bQ.get! ((IntKind.wrap .u8 (bM .u64 x 8)).toNat)).toNat:Int))))) (.op 100004 .wr (.op 100006 (.ch bQ .dn) (.ret (0+((bQ.get! ((IntKind.wrap .u8 x).toNat)).toNat:Int)))))))) Tryz.func193
def Du (x:Int):Option Int:=(GH x).bind fun x0=>some x0
theorem Qr (x:Int):∀r,Du x=some r->ak Tryz.prog 148 0 [NI .u64 x] [] (I r) []:=
 ay 10 (.call [] [] (Lr x) .no fun x0=>.ret x0) Tryz.func148
def cmp_isNaN_int (x:Int):Option Bool:=some (x != x)
theorem qQ (x:Int):∀r,cmp_isNaN_int x=some r->ak Tryz.prog 182 0 [I x] [] (B r) []:=
 ay 10 (.ret (x != x)) Tryz.func182
def cmp_Less_int (x:Int) (y:Int):Option Bool:=(cmp_isNaN_int x).bind fun x0=>bif x0 then (cmp_isNaN_int y).bind fun x1=>bif !x1 then some true else some (decide (x<y)) else some (decide (x<y))
theorem Ve (x:Int) (y:Int):∀r,cmp_Less_int x y=some r->ak Tryz.prog 189 0 [I x,I y] [] (B r) []:=
 ay 10 (.call [] [] (qQ x) .no fun x0=>.br 10006 (.call [] [] (qQ y) .no fun x1=>.br 10016 (.ret true) (.ret (decide (x<y)))) (.ret (decide (x<y)))) Tryz.func189
def qh (a:Int) (b:Int) (i:Int) (j:Int) (eP:List Int):St:=⟨49,1,[(0,.msl 0 0 none none),(1,I a),(2,I b),(6,I i),(7,I j)],[(0,ROW 1 K4 eP 0)]⟩
def qg (a:Int) (b:Int) (i:Int) (eP:List Int):St:=⟨49,1,[(0,.msl 0 0 none none),(1,I a),(2,I b),(6,I i)],[(0,ROW 1 K4 eP 0)]⟩
def bn (a:Int) (b:Int) (i:Int) (j:Int) (eP:List Int):Option ((Int×List Int)⊕(List Int)):=let y0:=j.toNat<eP.length;let y2:=(j-1).toNat<eP.length;let y4:=nth eP j.toNat;let y5:=(j-1).toNat;let y1:=eP.set j.toNat (nth eP y5);let y3:=(j-1).toNat<y1.length;bif decide (j>a) then G1 (0<=j)<|G1 y0<|G1 y0<|G3 (j-1)<|G1 (0<=j-1)<|G1 y2<|G1 y2<|(cmp_Less_int y4 (nth eP y5)).bind fun x0=>bif x0 then G3 (j-1)<|G3 (j-1)<|G1 (0<=j-1)<|G1 y2<|G1 y2<|G1 (0<=j)<|G1 y0<|G1 y0<|G1 (0<=j)<|G1 y0<|G1 y0<|G1 (0<=j-1)<|G1 y3<|G1 y3<|G3 (j-1)<|some (.inl (j-1,y1.set y5 y4)) else some (.inr eP) else some (.inr eP)
theorem qN (a:Int) (b:Int) (i:Int):∀σ:Int×List Int,aP Tryz.prog (nav [1,0,0,1,0,0,1,0,0] (aj Tryz.f183)) (fun (σ:Int×List Int)=>qh a b i σ.1 σ.2) (fun (_:List Int)=>(.exit 2)) (fun (y:List Int)=>qg a b i y) σ (bn a b i σ.1 σ.2)
 | (j,eP)=>let y0:=nth eP ((j-1).toNat);let y1:=eP.set j.toNat y0;let y2:=G4 [0,1,2,6] [0] (.ret (.inr eP));let y3:=nth eP j.toNat;aK 2010 (.br 40008 (.op 40012 (.el K4 eP .dn) (.op 40014 (.ld K4 eP) (.op 40022 (.el K4 eP .dn) (.op 40024 (.ld K4 eP) (.call [] [] (Ve y3 y0) .no fun x0=>.br 100000030 (.op 60016 (.el K4 eP .dn) (.op 60018 (.ld K4 eP) (.op 60024 (.el K4 eP .dn) (.op 60026 (.ld K4 eP) (.op 60028 (.el K4 eP .dn) (.op 60030 (.st K4 eP y0) (.op 60032 (.el K4 y1 .dn) (.op 60034 (.st K4 y1 y3) (G4 [0,1,2,6,7] [0] (.ret (.inl (j-1,y1.set ((j-1).toNat) y3)))))))))))) y2))))) y2)
def gq (a:Int) (b:Int) (i:Int) (j:Int) (eP:List Int):Option (List Int):=aN (fun (σ:Int×List Int)=>bn a b i σ.1 σ.2) FU (j,eP)
def qj (a:Int) (b:Int) (i:Int) (j:Int) (eP:List Int):=
 aU (qN a b i) (fun _ h=>by cases h) FU (j,eP)
def qm (a:Int) (b:Int) (i:Int) (data:List Int):St:=⟨49,1,[(0,.msl 0 0 none none),(1,I a),(2,I b),(6,I i)],[(0,ROW 1 K4 data 0)]⟩
def qP (a:Int) (b:Int) (o:List Int):St:=⟨49,1,[],[(0,ROW 1 K4 o 0)]⟩
def dX (a:Int) (b:Int) (i:Int) (data:List Int):Option ((Int×List Int)⊕(List Int)):=bif decide (i<b) then (gq a b i i data).bind fun x0=>G3 (i+1)<|some (.inl (i+1,x0)) else some (.inr data)
theorem qH (a:Int) (b:Int):∀σ:Int×List Int,aP Tryz.prog (nav [1,0,0] (aj Tryz.f183)) (fun (σ:Int×List Int)=>qm a b σ.1 σ.2) (fun (_:List Int)=>(.exit 0)) (fun (y:List Int)=>qP a b y) σ (dX a b σ.1 σ.2)
 | (i,data)=>aK 1010 (.br 100000012 (K3 [0,1,2,6,7] [0] (.lp1 0 (qj a b i i data) fun x0=>G4 [0,1,2,6] [0] (.ret (.inl (i+1,x0))))) (G4 [] [0] (.ret (.inr data))))
def fZ (a:Int) (b:Int) (i:Int) (data:List Int):Option (List Int):=aN (fun (σ:Int×List Int)=>dX a b σ.1 σ.2) FU (i,data)
def qM (a:Int) (b:Int) (i:Int) (data:List Int):=
 aU (qH a b) (fun _ h=>by cases h) FU (i,data)
def gV (o0:List Int) (a:Int) (b:Int):Option (List Int):=G3 (a+1)<|(fZ a b (a+1) o0).bind fun x0=>some x0
theorem rV (o0:List Int) (a:Int) (b:Int):∀r,gV o0 a b=some r->ak Tryz.prog 183 1 [.msl 0 0 none none,I a,I b] [(0,ROW 1 K4 o0 0)] (.tup []) [(0,ROW 1 K4 r 0)]:=
 ay 10 (K3 [0,1,2,6] [0] (.lp1 0 (qM a b (a+1) o0) fun x0=>.ret x0)) Tryz.func183
def uV (o0:List Int) (a:Int) (a1:Int) (a2:Int):St:=⟨134,1,[(0,.msl 0 0 none none),(1,I a),(2,I a1),(3,I a2),(8,B true),(9,B true)],[(0,ROW 1 K4 o0 0)]⟩
def vZ (o0:List Int) (a:Int) (a1:Int) (a2:Int) (o:List Int):St:=⟨134,1,[],[(0,ROW 1 K4 o 0)]⟩
def dU (o0:List Int) (a:Int) (a1:Int) (a2:Int):Option (Unit⊕(List Int)):=G3 (a1-a)<|bif decide ((a1-a)<=12) then (gV o0 a a1).bind fun x0=>some (.inr x0) else bif a2==0 then none else none
theorem wu (o0:List Int) (a:Int) (a1:Int) (a2:Int):∀σ:Unit,aP Tryz.prog (nav [1,1,0,0] (aj Tryz.f147)) (fun (σ:Unit)=>uV o0 a a1 a2) (fun (_:List Int)=>.ret) (fun (y:List Int)=>vZ o0 a a1 a2 y) σ (dU o0 a a1 a2)
 | ()=>aK 1010 (.br 100000023 (.call [0] [] (rV o0 a a1) .no fun x0=>G4 [] [0] (.ret (.inr x0))) (.br 100000029 .nil .nil))
def jd (o0:List Int) (a:Int) (a1:Int) (a2:Int):Option (List Int):=aN (fun (σ:Unit)=>dU o0 a a1 a2) FU ()
def vk (o0:List Int) (a:Int) (a1:Int) (a2:Int):=
 aU (wu o0 a a1 a2) (fun _ h=>by cases h) FU ()
def jA (o0:List Int) (a:Int) (a1:Int) (a2:Int):Option (List Int):=(jd o0 a a1 a2).bind fun x0=>some x0
theorem wV (o0:List Int) (a:Int) (a1:Int) (a2:Int):∀r,jA o0 a a1 a2=some r->ak Tryz.prog 147 1 [.msl 0 0 none none,I a,I a1,I a2] [(0,ROW 1 K4 o0 0)] (.tup []) [(0,ROW 1 K4 r 0)]:=
 ay 10 (K3 [0,1,2,3,8,9] [0] (.lp1 0 (vk o0 a a1 a2) fun x0=>.ret x0)) Tryz.func147
def iC (o0:List Int):Option (List Int):=(Du (IntKind.wrap .u64 (o0.length:Int))).bind fun x0=>(jA o0 0 (o0.length:Int) x0).bind fun x1=>some x1
theorem Dw (o0:List Int):∀r,iC o0=some r->ak Tryz.prog 94 1 [.msl 0 0 none none] [(0,ROW 1 K4 o0 0)] (.tup []) [(0,ROW 1 K4 r 0)]:=
 ay 10 (.op 2 (.ln K4 o0) (.op 10006 .wr (.call [] [] (Qr (IntKind.wrap .u64 (o0.length:Int))) .no fun x0=>.call [0] [] (wV o0 0 (o0.length:Int) x0) .no fun x1=>.ret x1))) Tryz.func94
structure Pair where
 From:Int
 To:Int
 deriving DecidableEq,Inhabited
abbrev Pair.D (x:Pair):List D:=[.v (.int .i64 x.From),.v (.int .i64 x.To)]
structure Shape where
 Ins:Int
 aG:Int
 aA:Int
 All:List Pair
 deriving DecidableEq,Inhabited
abbrev Shape.D (x:Shape):List D:=[.v (.int .i64 x.Ins),.v (.int .i64 x.aG),.v (.int .i64 x.aA),.sl (x.All.map Pair.D)]
end Go.Ab.M
