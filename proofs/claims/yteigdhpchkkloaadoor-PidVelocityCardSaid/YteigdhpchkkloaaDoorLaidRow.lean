-- The laid condition, for the rows.
import Derived.Test.YteigdhpchkkloaaDoorLaid
