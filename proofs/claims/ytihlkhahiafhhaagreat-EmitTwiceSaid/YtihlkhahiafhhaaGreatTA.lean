import Derived.Test.YtihlkhahiafhhaaGreatCL
namespace Go.Ab.M
open Go.Proofs
set_option linter.unusedVariables false
set_option linter.defProp false
set_option maxRecDepth 100000
def dF:ByteArray:=⟨#[0,1,2,2,3,3,3,3,4,4,4,4,4,4,4,4,5,5,5,5,5,5,5,5,5,5,5,5,5,5,5,5,6,6,6,6,6,6,6,6,6,6,6,6,6,6,6,6,6,6,6,6,6,6,6,6,6,6,6,6,6,6,6,6,7,7,7,7,7,7,7,7,7,7,7,7,7,7,7,7,7,7,7,7,7,7,7,7,7,7,7,7,7,7,7,7,7,7,7,7,7,7,7,7,7,7,7,7,7,7,7,7,7,7,7,7,7,7,7,7,7,7,7,7,7,7,7,7,8,8,8,8,8,8,8,8,8,8,8,8,8,8,8,8,8,8,8,8,8,8,8,8,8,8,8,8,8,8,8,8,8,8,8,8,8,8,8,8,8,8,8,8,8,8,8,8,8,8,8,8,8,8,8,8,8,8,8,8,8,8,8,8,8,8,8,8,8,8,8,8,8,8,8,8,8,8,8,8,8,8,8,8,8,8,8,8,8,8,8,8,8,8,8,8,8,8,8,8,8,8,8,8,8,8,8,8,8,8,8,8,8,8,8,8,8,8,8,8,8,8,8,8,8,8,8,8]⟩
def JU (x:Int):Option Int:=let y0:=cZ .u64 x 32;let y7:=((dF.get! ((IntKind.wrap .u8 y0).toNat)).toNat:Int);let y8:=((dF.get! ((IntKind.wrap .u8 x).toNat)).toNat:Int);let y9:=cZ .u64 y0 16;let y3:=((dF.get! ((IntKind.wrap .u8 y9).toNat)).toNat:Int);let y10:=cZ .u64 x 16;let y5:=((dF.get! ((IntKind.wrap .u8 y10).toNat)).toNat:Int);let y12:=cZ .u64 y10 8;let y2:=((dF.get! ((IntKind.wrap .u8 y12).toNat)).toNat:Int);let y13:=((0+16)+8)+y2;let y14:=cZ .u64 y9 8;let y1:=((dF.get! ((IntKind.wrap .u8 y14).toNat)).toNat:Int);let y11:=((32+16)+8)+y1;let y15:=cZ .u64 y0 8;let y4:=((dF.get! ((IntKind.wrap .u8 y15).toNat)).toNat:Int);let y16:=cZ .u64 x 8;let y6:=((dF.get! ((IntKind.wrap .u8 y16).toNat)).toNat:Int);let y17:=(32+16)+y3;bif decide (x>=4294967296) then bif decide (y0>=65536) then bif decide (y9>=256) then G1 (0<=IntKind.wrap .u8 y14)<|G1 ((IntKind.wrap .u8 y14).toNat<dF.size)<|G2 y1<|G2 y11<|some y11 else G1 (0<=IntKind.wrap .u8 y9)<|G1 ((IntKind.wrap .u8 y9).toNat<dF.size)<|G2 y3<|G2 y17<|some y17 else bif decide (y0>=256) then G1 (0<=IntKind.wrap .u8 y15)<|G1 ((IntKind.wrap .u8 y15).toNat<dF.size)<|G2 y4<|G2 ((32+8)+y4)<|some ((32+8)+y4) else G1 (0<=IntKind.wrap .u8 y0)<|G1 ((IntKind.wrap .u8 y0).toNat<dF.size)<|G2 y7<|G2 (32+y7)<|some (32+y7) else bif decide (x>=65536) then bif decide (y10>=256) then G1 (0<=IntKind.wrap .u8 y12)<|G1 ((IntKind.wrap .u8 y12).toNat<dF.size)<|G2 y2<|G2 y13<|some y13 else G1 (0<=IntKind.wrap .u8 y10)<|G1 ((IntKind.wrap .u8 y10).toNat<dF.size)<|G2 y5<|G2 ((0+16)+y5)<|some ((0+16)+y5) else bif decide (x>=256) then G1 (0<=IntKind.wrap .u8 y16)<|G1 ((IntKind.wrap .u8 y16).toNat<dF.size)<|G2 y6<|G2 ((0+8)+y6)<|some ((0+8)+y6) else G1 (0<=IntKind.wrap .u8 x)<|G1 ((IntKind.wrap .u8 x).toNat<dF.size)<|G2 y8<|G2 (0+y8)<|some (0+y8)
theorem Pv (x:Int):∀r,JU x=some r->aj Tryz.prog 142 0 [NI .u64 x] [] (I r) []:=
 let y0:=cZ .u64 x 32;let y1:=cZ .u64 y0 16;let y2:=cZ .u64 x 16;ak 10 (.br 100000004 (.br 100000008 (.br 100000014 (.op 100004 .wr (.op 100006 (.ch dF .dn) (.ret (((32+16)+8)+((dF.get! ((IntKind.wrap .u8 (cZ .u64 y1 8)).toNat)).toNat:Int))))) (.op 100004 .wr (.op 100006 (.ch dF .dn) (.ret ((32+16)+((dF.get! ((IntKind.wrap .u8 y1).toNat)).toNat:Int)))))) (.br 100000014 (.op 100004 .wr (.op 100006 (.ch dF .dn) (.ret ((32+8)+((dF.get! ((IntKind.wrap .u8 (cZ .u64 y0 8)).toNat)).toNat:Int))))) (.op 100004 .wr (.op 100006 (.ch dF .dn) (.ret (32+((dF.get! ((IntKind.wrap .u8 y0).toNat)).toNat:Int))))))) (.br 100000008 (.br 100000014 (.op 100004 .wr (.op 100006 (.ch dF .dn) (.ret (((0+16)+8)+((dF.get! ((IntKind.wrap .u8 (cZ .u64 y2 8)).toNat)).toNat:Int))))) (.op 100004 .wr (.op 100006 (.ch dF .dn) (.ret ((0+16)+((dF.get! ((IntKind.wrap .u8 y2).toNat)).toNat:Int)))))) (.br 100000014 (.op 100004 .wr (.op 100006 (.ch dF .dn) (.ret ((0+8)+((dF.get! ((IntKind.wrap .u8 (cZ .u64 x 8)).toNat)).toNat:Int))))) (.op 100004 .wr (.op 100006 (.ch dF .dn) (.ret (0+((dF.get! ((IntKind.wrap .u8 x).toNat)).toNat:Int)))))))) Tryz.func142
def Ap (x:Int):Option Int:=(JU x).bind fun x0=>some x0
theorem Hf (x:Int):∀r,Ap x=some r->aj Tryz.prog 82 0 [NI .u64 x] [] (I r) []:=
 ak 10 (.call [] [] (Pv x) .no fun x0=>.ret x0) Tryz.func82
def cmp_isNaN_int (x:Int):Option Bool:=some (x != x)
theorem vC (x:Int):∀r,cmp_isNaN_int x=some r->aj Tryz.prog 187 0 [I x] [] (B r) []:=
 ak 10 (.ret (x != x)) Tryz.func187
def cmp_Less_int (x:Int) (y:Int):Option Bool:=(cmp_isNaN_int x).bind fun x0=>bif x0 then (cmp_isNaN_int y).bind fun x1=>bif !x1 then some true else some (decide (x<y)) else some (decide (x<y))
theorem JR (x:Int) (y:Int):∀r,cmp_Less_int x y=some r->aj Tryz.prog 138 0 [I x,I y] [] (B r) []:=
 ak 10 (.call [] [] (vC x) .no fun x0=>.br 10006 (.call [] [] (vC y) .no fun x1=>.br 10016 (.ret true) (.ret (decide (x<y)))) (.ret (decide (x<y)))) Tryz.func138
def tC (a:Int) (b:Int) (i:Int):St:=⟨49,0,[(0,SL K1 ([]:List Int)),(1,I a),(2,I b),(6,I i),(7,I i)],[]⟩
def sZ (a:Int) (b:Int) (i:Int):St:=⟨49,0,[(0,SL K1 ([]:List Int)),(1,I a),(2,I b),(6,I i)],[]⟩
def jZ (a:Int) (b:Int) (i:Int):Option (Unit⊕Unit):=let y0:=i.toNat<([]:List Int).length;let y1:=(i-1).toNat<([]:List Int).length;bif decide (i>a) then G1 (0<=i)<|G1 y0<|G2 (i-1)<|G1 (0<=i-1)<|G1 y1<|(cmp_Less_int (nth ([]:List Int) i.toNat) (nth ([]:List Int) ((i-1).toNat))).bind fun x0=>bif x0 then G2 (i-1)<|G2 (i-1)<|G1 (0<=i-1)<|G1 y1<|G1 (0<=i)<|G1 y0<|G1 (0<=i)<|G1 y0<|none else some (.inr ()) else some (.inr ())
theorem um (a:Int) (b:Int) (i:Int):∀σ:Unit,aO Tryz.prog (nav [1,0,0,1,0,0,1,0,0] (aK Tryz.f132)) (fun (σ:Unit)=>tC a b i) (fun (_:Unit)=>(.exit 2)) (fun (y:Unit)=>sZ a b i) σ (jZ a b i)
 | ()=>let y0:=G3 [0,1,2,6] [] (.ret (.inr ()));aI 2010 (.br 40008 (.op 40012 (.el K1 ([]:List Int) .dn) (.op 40022 (.el K1 ([]:List Int) .dn) (.call [] [] (JR (nth ([]:List Int) i.toNat) (nth ([]:List Int) ((i-1).toNat))) .no fun x0=>.br 100000030 (.op 60016 (.el K1 ([]:List Int) .dn) (.op 60024 (.el K1 ([]:List Int) .dn) (.op 60028 (.el K1 ([]:List Int) .dn) .nil))) y0))) y0)
def wW (a:Int) (b:Int) (i:Int):Option Unit:=aQ (fun (σ:Unit)=>jZ a b i) FU ()
def sJ (a:Int) (b:Int) (i:Int):=
 aX (um a b i) (fun _ h=>by cases h) FU ()
def wG (a:Int) (b:Int) (i:Int):St:=⟨49,0,[(0,SL K1 ([]:List Int)),(1,I a),(2,I b),(6,I i)],[]⟩
def wB (a:Int) (b:Int):St:=⟨49,0,[],[]⟩
def kR (a:Int) (b:Int) (i:Int):Option (Int⊕Unit):=bif decide (i<b) then (wW a b i).bind fun x0=>G2 (i+1)<|some (.inl (i+1)) else some (.inr ())
theorem wo (a:Int) (b:Int):∀σ:Int,aO Tryz.prog (nav [1,0,0] (aK Tryz.f132)) (fun (σ:Int)=>wG a b σ) (fun (_:Unit)=>(.exit 0)) (fun (y:Unit)=>wB a b) σ (kR a b σ)
 | i=>aI 1010 (.br 100000012 (G4 [0,1,2,6,7] [] (.lp1 0 (sJ a b i) fun x0=>G3 [0,1,2,6] [] (.ret (.inl (i+1))))) (G3 [] [] (.ret (.inr ()))))
def yK (a:Int) (b:Int) (i:Int):Option Unit:=aQ (fun (σ:Int)=>kR a b σ) FU i
def vY (a:Int) (b:Int) (i:Int):=
 aX (wo a b) (fun _ h=>by cases h) FU i
def oG (a:Int) (b:Int):Option Unit:=G2 (a+1)<|(yK a b (a+1)).bind fun x0=>some ()
theorem xG (a:Int) (b:Int):∀r,oG a b=some r->aj Tryz.prog 132 0 [SL K1 ([]:List Int),I a,I b] [] (.tup []) []:=
 ak 10 (G4 [0,1,2,6] [] (.lp1 0 (vY a b (a+1)) fun x0=>.ret ())) Tryz.func132
def zM (a:Int) (a1:Int) (a2:Int):St:=⟨134,0,[(0,SL K1 ([]:List Int)),(1,I a),(2,I a1),(3,I a2),(8,B true),(9,B true)],[]⟩
def zN (a:Int) (a1:Int) (a2:Int):St:=⟨134,0,[],[]⟩
def oQ (a:Int) (a1:Int) (a2:Int):Option (Unit⊕Unit):=G2 (a1-a)<|bif decide ((a1-a)<=12) then (oG a a1).bind fun x0=>some (.inr ()) else bif a2==0 then none else none
theorem zZ (a:Int) (a1:Int) (a2:Int):∀σ:Unit,aO Tryz.prog (nav [1,1,0,0] (aK Tryz.f81)) (fun (σ:Unit)=>zM a a1 a2) (fun (_:Unit)=>.ret) (fun (y:Unit)=>zN a a1 a2) σ (oQ a a1 a2)
 | ()=>aI 1010 (.br 100000023 (.call [] [] (xG a a1) .no fun x0=>G3 [] [] (.ret (.inr ()))) (.br 100000029 .nil .nil))
def Dl (a:Int) (a1:Int) (a2:Int):Option Unit:=aQ (fun (σ:Unit)=>oQ a a1 a2) FU ()
def zV (a:Int) (a1:Int) (a2:Int):=
 aX (zZ a a1 a2) (fun _ h=>by cases h) FU ()
def vT (a:Int) (a1:Int) (a2:Int):Option Unit:=(Dl a a1 a2).bind fun x0=>some ()
theorem BO (a:Int) (a1:Int) (a2:Int):∀r,vT a a1 a2=some r->aj Tryz.prog 81 0 [SL K1 ([]:List Int),I a,I a1,I a2] [] (.tup []) []:=
 ak 10 (G4 [0,1,2,3,8,9] [] (.lp1 0 (zV a a1 a2) fun x0=>.ret ())) Tryz.func81
def vW:Option Unit:=(Ap (IntKind.wrap .u64 (([]:List Int).length:Int))).bind fun x0=>(vT 0 (([]:List Int).length:Int) x0).bind fun x1=>some ()
theorem Iy:∀r,vW=some r->aj Tryz.prog 45 0 [SL K1 ([]:List Int)] [] (.tup []) []:=
 let y0:=(([]:List Int).length:Int);ak 10 (.op 2 (.ln K1 ([]:List Int)) (.op 10006 .wr (.call [] [] (Hf (IntKind.wrap .u64 y0)) .no fun x0=>.call [] [] (BO 0 y0 x0) .no fun x1=>.ret ()))) Tryz.func45
def uf (a:Int) (b:Int) (i:Int) (j:Int) (fG:List Int):St:=⟨49,1,[(0,.msl 0 0 none none),(1,I a),(2,I b),(6,I i),(7,I j)],[(0,ROW 1 K1 fG 0)]⟩
def ug (a:Int) (b:Int) (i:Int) (fG:List Int):St:=⟨49,1,[(0,.msl 0 0 none none),(1,I a),(2,I b),(6,I i)],[(0,ROW 1 K1 fG 0)]⟩
def bU (a:Int) (b:Int) (i:Int) (j:Int) (fG:List Int):Option ((Int×List Int)⊕(List Int)):=let y0:=j.toNat<fG.length;let y2:=(j-1).toNat<fG.length;let y4:=nth fG j.toNat;let y5:=(j-1).toNat;let y1:=fG.set j.toNat (nth fG y5);let y3:=(j-1).toNat<y1.length;bif decide (j>a) then G1 (0<=j)<|G1 y0<|G1 y0<|G2 (j-1)<|G1 (0<=j-1)<|G1 y2<|G1 y2<|(cmp_Less_int y4 (nth fG y5)).bind fun x0=>bif x0 then G2 (j-1)<|G2 (j-1)<|G1 (0<=j-1)<|G1 y2<|G1 y2<|G1 (0<=j)<|G1 y0<|G1 y0<|G1 (0<=j)<|G1 y0<|G1 y0<|G1 (0<=j-1)<|G1 y3<|G1 y3<|G2 (j-1)<|some (.inl (j-1,y1.set y5 y4)) else some (.inr fG) else some (.inr fG)
theorem sS (a:Int) (b:Int) (i:Int):∀σ:Int×List Int,aO Tryz.prog (nav [1,0,0,1,0,0,1,0,0] (aK Tryz.f132)) (fun (σ:Int×List Int)=>uf a b i σ.1 σ.2) (fun (_:List Int)=>(.exit 2)) (fun (y:List Int)=>ug a b i y) σ (bU a b i σ.1 σ.2)
 | (j,fG)=>let y0:=nth fG ((j-1).toNat);let y1:=fG.set j.toNat y0;let y2:=G3 [0,1,2,6] [0] (.ret (.inr fG));let y3:=nth fG j.toNat;aI 2010 (.br 40008 (.op 40012 (.el K1 fG .dn) (.op 40014 (.ld K1 fG) (.op 40022 (.el K1 fG .dn) (.op 40024 (.ld K1 fG) (.call [] [] (JR y3 y0) .no fun x0=>.br 100000030 (.op 60016 (.el K1 fG .dn) (.op 60018 (.ld K1 fG) (.op 60024 (.el K1 fG .dn) (.op 60026 (.ld K1 fG) (.op 60028 (.el K1 fG .dn) (.op 60030 (.st K1 fG y0) (.op 60032 (.el K1 y1 .dn) (.op 60034 (.st K1 y1 y3) (G3 [0,1,2,6,7] [0] (.ret (.inl (j-1,y1.set ((j-1).toNat) y3)))))))))))) y2))))) y2)
def iw (a:Int) (b:Int) (i:Int) (j:Int) (fG:List Int):Option (List Int):=aQ (fun (σ:Int×List Int)=>bU a b i σ.1 σ.2) FU (j,fG)
def tX (a:Int) (b:Int) (i:Int) (j:Int) (fG:List Int):=
 aX (sS a b i) (fun _ h=>by cases h) FU (j,fG)
def uy (a:Int) (b:Int) (i:Int) (data:List Int):St:=⟨49,1,[(0,.msl 0 0 none none),(1,I a),(2,I b),(6,I i)],[(0,ROW 1 K1 data 0)]⟩
def uF (a:Int) (b:Int) (o:List Int):St:=⟨49,1,[],[(0,ROW 1 K1 o 0)]⟩
def eH (a:Int) (b:Int) (i:Int) (data:List Int):Option ((Int×List Int)⊕(List Int)):=bif decide (i<b) then (iw a b i i data).bind fun x0=>G2 (i+1)<|some (.inl (i+1,x0)) else some (.inr data)
theorem tZ (a:Int) (b:Int):∀σ:Int×List Int,aO Tryz.prog (nav [1,0,0] (aK Tryz.f132)) (fun (σ:Int×List Int)=>uy a b σ.1 σ.2) (fun (_:List Int)=>(.exit 0)) (fun (y:List Int)=>uF a b y) σ (eH a b σ.1 σ.2)
 | (i,data)=>aI 1010 (.br 100000012 (G4 [0,1,2,6,7] [0] (.lp1 0 (tX a b i i data) fun x0=>G3 [0,1,2,6] [0] (.ret (.inl (i+1,x0))))) (G3 [] [0] (.ret (.inr data))))
def iq (a:Int) (b:Int) (i:Int) (data:List Int):Option (List Int):=aQ (fun (σ:Int×List Int)=>eH a b σ.1 σ.2) FU (i,data)
def tV (a:Int) (b:Int) (i:Int) (data:List Int):=
 aX (tZ a b) (fun _ h=>by cases h) FU (i,data)
def iP (o0:List Int) (a:Int) (b:Int):Option (List Int):=G2 (a+1)<|(iq a b (a+1) o0).bind fun x0=>some x0
theorem wF (o0:List Int) (a:Int) (b:Int):∀r,iP o0 a b=some r->aj Tryz.prog 132 1 [.msl 0 0 none none,I a,I b] [(0,ROW 1 K1 o0 0)] (.tup []) [(0,ROW 1 K1 r 0)]:=
 ak 10 (G4 [0,1,2,6] [0] (.lp1 0 (tV a b (a+1) o0) fun x0=>.ret x0)) Tryz.func132
def zn (o0:List Int) (a:Int) (a1:Int) (a2:Int):St:=⟨134,1,[(0,.msl 0 0 none none),(1,I a),(2,I a1),(3,I a2),(8,B true),(9,B true)],[(0,ROW 1 K1 o0 0)]⟩
def zo (o0:List Int) (a:Int) (a1:Int) (a2:Int) (o:List Int):St:=⟨134,1,[],[(0,ROW 1 K1 o 0)]⟩
def eF (o0:List Int) (a:Int) (a1:Int) (a2:Int):Option (Unit⊕(List Int)):=G2 (a1-a)<|bif decide ((a1-a)<=12) then (iP o0 a a1).bind fun x0=>some (.inr x0) else bif a2==0 then none else none
theorem yX (o0:List Int) (a:Int) (a1:Int) (a2:Int):∀σ:Unit,aO Tryz.prog (nav [1,1,0,0] (aK Tryz.f81)) (fun (σ:Unit)=>zn o0 a a1 a2) (fun (_:List Int)=>.ret) (fun (y:List Int)=>zo o0 a a1 a2 y) σ (eF o0 a a1 a2)
 | ()=>aI 1010 (.br 100000023 (.call [0] [] (wF o0 a a1) .no fun x0=>G3 [] [0] (.ret (.inr x0))) (.br 100000029 .nil .nil))
def jL (o0:List Int) (a:Int) (a1:Int) (a2:Int):Option (List Int):=aQ (fun (σ:Unit)=>eF o0 a a1 a2) FU ()
def zi (o0:List Int) (a:Int) (a1:Int) (a2:Int):=
 aX (yX o0 a a1 a2) (fun _ h=>by cases h) FU ()
def kZ (o0:List Int) (a:Int) (a1:Int) (a2:Int):Option (List Int):=(jL o0 a a1 a2).bind fun x0=>some x0
theorem Aa (o0:List Int) (a:Int) (a1:Int) (a2:Int):∀r,kZ o0 a a1 a2=some r->aj Tryz.prog 81 1 [.msl 0 0 none none,I a,I a1,I a2] [(0,ROW 1 K1 o0 0)] (.tup []) [(0,ROW 1 K1 r 0)]:=
 ak 10 (G4 [0,1,2,3,8,9] [0] (.lp1 0 (zi o0 a a1 a2) fun x0=>.ret x0)) Tryz.func81
def gZ (o0:List Int):Option (List Int):=(Ap (IntKind.wrap .u64 (o0.length:Int))).bind fun x0=>(kZ o0 0 (o0.length:Int) x0).bind fun x1=>some x1
theorem wQ (o0:List Int):∀r,gZ o0=some r->aj Tryz.prog 45 1 [.msl 0 0 none none] [(0,ROW 1 K1 o0 0)] (.tup []) [(0,ROW 1 K1 r 0)]:=
 ak 10 (.op 2 (.ln K1 o0) (.op 10006 .wr (.call [] [] (Hf (IntKind.wrap .u64 (o0.length:Int))) .no fun x0=>.call [0] [] (Aa o0 0 (o0.length:Int) x0) .no fun x1=>.ret x1))) Tryz.func45
end Go.Ab.M
